import Derived.Test.YtalpkjfpmdpbiaaGreatDoorYI
import Derived.Test.YtalpkjfpmdpbiaaGreatDoorGY
set_option linter.all false
namespace Go.Proofs.YtalpkjfpmdpbiaaGreatDoor
open Go Go.Vc Go.RowKit Go.Proofs Go.Chk Go.Runs Go.Code Go.Que Go.Flw
set_option maxRecDepth 100000
theorem sameCells_spec {w : World} {a b : Sl} {x y : List Ce} (ha : RdK w a 3 (x.map clv)) (hb : RdK w b 3 (y.map clv)) (hl : x.length ≤ 5000) :
  Calls Tryz.prog n_ref17_SameCells #[.slice a.a a.n a.c, .slice b.a b.n b.c] w fun e w' => e = .returned (.bool (x == y)) ∧ Ext w w' := by
 apply ref17_SameCells.vc
 have hn : a.n = x.length := by rw [ha.n, List.length_map]
 have hm : b.n = y.length := by rw [hb.n, List.length_map]
 refine Br.mk (fun hc => ?_) (fun hc => ?_)
 ·have hne : x.length ≠ y.length := by
   simp only [bne_iff_ne, ne_eq] at hc; omega
  have : (x == y) = false := by
   rw [beq_eq_false_iff_ne]; intro e; exact hne (by rw [e])
  exact ⟨by rw [this], Ext.rfl' _⟩
 ·have heq : x.length = y.length := by
   simp only [bne_eq_false_iff_eq] at hc; omega
  refine ⟨fun n i wr => Ext w wr ∧ ∃ k : Nat, i = k ∧ k + n = x.length ∧ x.take k = y.take k, ⟨x.length, Ext.rfl' _, 0, rfl, by omega, rfl⟩, ?_⟩
  rintro n us i wr ⟨xr, k, rfl, hk, hsame⟩
  refine Br.mk (fun hc => ?_) (fun hc => ?_)
  ·simp only [decide_eq_true_eq] at hc
   have hgx : x[k]? = some (x[k]'(by omega)) := List.getElem?_eq_getElem (by omega)
   have hgy : y[k]? = some (y[k]'(by omega)) := List.getElem?_eq_getElem (by omega)
   generalize x[k]'(by omega) = p at hgx
   generalize y[k]'(by omega) = q at hgy
   have hra := ha.ext xr.drew
   have hrb := hb.ext xr.drew
   refine ⟨⟨hra.isSome (by decide) (i := k) (by simp; omega), by omega, by omega⟩, p.1, p.2.1, p.2.2, hra.loadL (i := k) (by rw [List.getElem?_map, hgx]; rfl), ⟨hrb.isSome (by decide) (i := k) (by simp; omega), by omega, by omega⟩, q.1, q.2.1, q.2.2, hrb.loadL (i := k) (by rw [List.getElem?_map, hgy]; rfl), Br.mk (fun hq => ?_) (fun hq => ?_)⟩
   ·have hpq : p ≠ q := by
     intro e; subst e; simp at hq
    have : (x == y) = false := by
     rw [beq_eq_false_iff_ne]; intro e
     rw [e, hgy] at hgx; exact hpq (by cases hgx; rfl)
    exact ⟨by rw [this], xr.drew⟩
   ·have hpq : p = q := by
     simp only [Bool.not_eq_false', Bool.and_eq_true, beq_iff_eq] at hq
     obtain ⟨h1, h2, h3⟩ := hq
     exact Prod.ext h1 (Prod.ext h2 h3)
    have hw : IntKind.wrap .i64 ((k : Int) + 1) = ((k + 1 : Nat) : Int) := by rw [wrap_in (by unfold inI; omega)]; omega
    rw [hw]
    exact ⟨n - 1, by omega, xr.drew, k + 1, rfl, by omega, by rw [List.take_add_one, List.take_add_one, hgx, hgy, hsame, hpq]⟩
  ·simp only [decide_eq_false_iff_not] at hc
   rw [List.take_of_length_le (by omega), List.take_of_length_le (by omega)] at hsame
   exact ⟨by rw [hsame]; simp, xr⟩
theorem occ1_spec (c d : Ce) {g : Nat} {w : World} (hr : Row w g (clv d) tCe) : Calls Tryz.prog n_law19_SimOccupied_1 #[cev c, .pointer (some ⟨g, 0, none⟩)] w fun e w' => e = .returned (.bool (decide (c = d))) ∧ Ext w w' := by
 apply law19_SimOccupied_1.vc
 intro w0 e0
 have x0 : Ext w w0 := (Ext.rfl' _).of_alloc e0
 clear e0
 refine ⟨_, _, _, Lo.wv (hr.ext x0), ?_, x0⟩
 have : ((c.1 == d.1) && ((c.2.1 == d.2.1) && (c.2.2 == d.2.2))) = decide (c = d) := by
  rw [Bool.eq_iff_iff]
  simp only [Bool.and_eq_true, beq_iff_eq, decide_eq_true_eq]
  exact ⟨fun ⟨h1, h2, h3⟩ => Prod.ext h1 (Prod.ext h2 h3), fun h => by rw [h]; exact ⟨rfl, rfl, rfl⟩⟩
 rw [this]
theorem due_one (t : Int) (c : Ce) (now : Int) : qdue ⟨4096, 0, [(t, c)]⟩ now 64 = if t ≤ now then (⟨4096, 0, []⟩, [c]) else (⟨4096, 0, [(t, c)]⟩, []) := by
 unfold qdue qcount
 by_cases h : t ≤ now
 ·simp [h]
 ·simp [h]
theorem add_one (c : Ce) (t : Int) : (qadd ⟨4096, 0, []⟩ c t).1 = ⟨4096, 0, [(t, c)]⟩ := rfl
def itM (O : Ce → Bool) (M : Sm) : Nat → Sm
 | 0 => M
 | k + 1 => tickM O (itM O M k)
abbrev Gr (seed : Int) (l : List En) (ch : List Go.Flw.Cg) (c : Ce) (t now : Int) : Sm := ⟨seed, 5, (dk0 0, l), ch, ⟨4096, 0, [(t, c)]⟩, 64, now, []⟩
theorem gr_wait (O : Ce → Bool) (seed : Int) (l : List En) (ch : List Go.Flw.Cg) (c : Ce) {t now : Int} (h0 : 0 ≤ now ∧ now ≤ 1000) (h : now + 1 < t) : dueM (Gr seed l ch c t now) = [] ∧ tickM O (Gr seed l ch c t now) = Gr seed l ch c t (now + 1) := by
 have hn : nowM (Gr seed l ch c t now) = now + 1 := by unfold nowM; simp only; omega
 have hd : qdue ⟨4096, 0, [(t, c)]⟩ (now + 1) 64 = (⟨4096, 0, [(t, c)]⟩, []) := by rw [due_one, if_neg (by omega)]
 have h1 : dueM (Gr seed l ch c t now) = [] := by unfold dueM; rw [hn]; exact congrArg (·.2) hd
 refine ⟨h1, ?_⟩
 unfold tickM
 rw [h1]
 show startM _ = _
 unfold startM
 rw [hn]
 have := congrArg (·.1) hd
 simp only at this ⊢
 rw [this]
theorem gr_due (O : Ce → Bool) (seed : Int) (l : List En) (ch : List Go.Flw.Cg) (c : Ce) {t now : Int} (h0 : 0 ≤ now ∧ now ≤ 1000) (h : t = now + 1) : dueM (Gr seed l ch c t now) = [c] ∧ startM (Gr seed l ch c t now) = ⟨seed, 5, (dk0 0, l), ch, ⟨4096, 0, []⟩, 64, now + 1, []⟩ ∧ tickM O (Gr seed l ch c t now) = updM O ⟨seed, 5, (dk0 0, l), ch, ⟨4096, 0, []⟩, 64, now + 1, []⟩ c := by
 have hn : nowM (Gr seed l ch c t now) = now + 1 := by unfold nowM; simp only; omega
 have hd : qdue ⟨4096, 0, [(t, c)]⟩ (now + 1) 64 = (⟨4096, 0, []⟩, [c]) := by rw [due_one, if_pos (by omega)]
 have h1 : dueM (Gr seed l ch c t now) = [c] := by unfold dueM; rw [hn]; exact congrArg (·.2) hd
 have h2 : startM (Gr seed l ch c t now) = ⟨seed, 5, (dk0 0, l), ch, ⟨4096, 0, []⟩, 64, now + 1, []⟩ := by
  unfold startM
  rw [hn]
  have := congrArg (·.1) hd
  simp only at this ⊢
  rw [this]
 refine ⟨h1, h2, ?_⟩
 unfold tickM
 rw [h1, h2]
 rfl
def cj (own : Ce) (n j : Nat) : Ce := (own.1, own.2.1 + ((n : Nat) : Int) - ((j : Nat) : Int), own.2.2)
theorem cj_low (own : Ce) (n j : Nat) : lowK (cj own n j) = cj own n (j + 1) := by
 show ((own.1, own.2.1 + ((n : Nat) : Int) - ((j : Nat) : Int) - 1, own.2.2) : Ce) = (own.1, own.2.1 + ((n : Nat) : Int) - ((j + 1 : Nat) : Int), own.2.2)
 exact ce_eq rfl (by omega) rfl
theorem cj_own (own : Ce) (n : Nat) : cj own n n = own := by
 show ((own.1, own.2.1 + ((n : Nat) : Int) - ((n : Nat) : Int), own.2.2) : Ce) = (own.1, own.2.1, own.2.2)
 exact ce_eq rfl (by omega) rfl
structure Way (own : Ce) (n : Nat) : Prop where
 x : 1 ≤ own.1 ∧ own.1 ≤ 14
 z : 1 ≤ own.2.2 ∧ own.2.2 ≤ 14
 y : 16 ≤ own.2.1 ∧ own.2.1 ≤ 26
 n : 1 ≤ n ∧ n ≤ 4
theorem Way.up {own : Ce} {n : Nat} (h : Way own n) {j : Nat} (hj : j ≤ n) : up0 (cj own n j) := by
 obtain ⟨h1, h2, h3, h4⟩ := h
 unfold up0 cj
 simp only
 omega
theorem cj_ne {own : Ce} {n j k : Nat} (h : j ≠ k) : cj own n j ≠ cj own n k := fun q => by
 have := congrArg (·.2.1) q
 unfold cj at this
 simp only at this
 omega
theorem updV_back (V : Ce → Int) (c : Ce) (h : V c = 0) : updV (updV V c 3) c 0 = V := funext fun x => by
 unfold updV
 by_cases q : x = c
 ·rw [if_pos q, q, h]
 ·rw [if_neg q, if_neg q]
section
variable {own : Ce} {n : Nat} {seed : Int}
abbrev Oo (own : Ce) : Ce → Bool := fun c => decide (c = own)
theorem grain (hw : Way own n) {M : Sm} (hM : ∃ l ch, M = Gr seed l ch (cj own n 0) 2 0 ∧ Hs l (updV (V0 seed) (cj own n 0) 3) ∧ ch.length ≤ 10) :
  ∀ j : Nat, j < n → (∃ l ch, itM (Oo own) M (2 * j) = Gr seed l ch (cj own n j) (2 * j + 2) (2 * j) ∧ Hs l (updV (V0 seed) (cj own n j) 3) ∧ ch.length ≤ 10 + 2 * j) ∧ (∃ l ch, itM (Oo own) M (2 * j + 1) = Gr seed l ch (cj own n j) (2 * j + 2) (2 * j + 1) ∧ Hs l (updV (V0 seed) (cj own n j) 3) ∧ ch.length ≤ 10 + 2 * j) := by
 have odd : ∀ j : Nat, j < n → (∃ l ch, itM (Oo own) M (2 * j) = Gr seed l ch (cj own n j) (2 * j + 2) (2 * j) ∧ Hs l (updV (V0 seed) (cj own n j) 3) ∧ ch.length ≤ 10 + 2 * j) → (∃ l ch, itM (Oo own) M (2 * j + 1) = Gr seed l ch (cj own n j) (2 * j + 2) (2 * j + 1) ∧ Hs l (updV (V0 seed) (cj own n j) 3) ∧ ch.length ≤ 10 + 2 * j) := by
  rintro j hj ⟨l, ch, e, h1, h2⟩
  have hn := hw.n
  obtain ⟨-, g2⟩ := gr_wait (Oo own) seed l ch (cj own n j) (t := 2 * (j : Int) + 2) (now := 2 * (j : Int)) (by omega) (by omega)
  exact ⟨l, ch, by show tickM _ (itM (Oo own) M (2 * j)) = _; rw [e]; exact g2, h1, h2⟩
 intro j
 induction j with
 | zero =>
   intro hj
   obtain ⟨l, ch, e, h1, h2⟩ := hM
   have h0 : ∃ l ch, itM (Oo own) M (2 * 0) = Gr seed l ch (cj own n 0) (2 * ((0 : Nat) : Int) + 2) (2 * ((0 : Nat) : Int)) ∧ Hs l (updV (V0 seed) (cj own n 0) 3) ∧ ch.length ≤ 10 + 2 * 0 := ⟨l, ch, e, h1, h2⟩
   exact ⟨h0, odd 0 hj h0⟩
 | succ j ih =>
   intro hj
   obtain ⟨-, l, ch, e, h1, h2⟩ := ih (by omega)
   have hn := hw.n
   obtain ⟨-, -, g3⟩ := gr_due (Oo own) seed l ch (cj own n j) (t := 2 * (j : Int) + 2) (now := 2 * (j : Int) + 1) (by omega) (by omega)
   have uj := hw.up (j := j) (by omega)
   have uj1 := hw.up (j := j + 1) (by omega)
   have hair : ∀ {x : Ce}, x ≠ cj own n j → V0 seed x = 0 → delayK (updV (V0 seed) (cj own n j) 3 x) = 0 := fun q h => by rw [updV_ne q, h]; exact delay_air
   have hl := cj_low own n j
   obtain ⟨l', ch', f1, f2, f3⟩ := upd_fall (M := ⟨seed, 5, (dk0 0, l), ch, ⟨4096, 0, []⟩, 64, 2 * (j : Int) + 1 + 1, []⟩) (O := Oo own) (c := cj own n j) h1 uj.pos uj.y (by rw [hl]; exact uj1.y) (updV_same ..) (by rw [hl, updV_ne (cj_ne (by omega))]; exact uj1.air seed) (fun x hx => hair (nb_ne hx) (uj.near seed x hx)) (fun x hx hne => hair hne (by rw [hl] at hx; exact uj1.near seed x hx)) (by
    rw [hl]
    have h9 : cj own n (j + 1) ≠ cj own n n := cj_ne (by omega)
    rw [cj_own] at h9
    exact decide_eq_false h9)
   have e2 : itM (Oo own) M (2 * (j + 1)) = Gr seed l' ch' (cj own n (j + 1)) (2 * ((j + 1 : Nat) : Int) + 2) (2 * ((j + 1 : Nat) : Int)) := by
    show tickM _ (itM (Oo own) M (2 * j + 1)) = _
    rw [e, g3, f1, hl]
    have q1 : 2 * (j : Int) + 1 + 1 = 2 * ((j + 1 : Nat) : Int) := by omega
    show (⟨seed, 5, (dk0 0, l'), ch', (qadd ⟨4096, 0, []⟩ (cj own n (j + 1)) (2 * (j : Int) + 1 + 1 + 2)).1, 64, 2 * (j : Int) + 1 + 1, []⟩ : Sm) = _
    rw [add_one, q1]
   rw [updV_back _ _ (uj.air seed), hl] at f2
   have hev : ∃ l ch, itM (Oo own) M (2 * (j + 1)) = Gr seed l ch (cj own n (j + 1)) (2 * ((j + 1 : Nat) : Int) + 2) (2 * ((j + 1 : Nat) : Int)) ∧ Hs l (updV (V0 seed) (cj own n (j + 1)) 3) ∧ ch.length ≤ 10 + 2 * (j + 1) := ⟨l', ch', e2, f2, by simp only at f3; omega⟩
   exact ⟨hev, odd (j + 1) hj hev⟩
theorem grain_end (hw : Way own n) {M : Sm} (hM : ∃ l ch, M = Gr seed l ch (cj own n 0) 2 0 ∧ Hs l (updV (V0 seed) (cj own n 0) 3) ∧ ch.length ≤ 10) :
  ∃ l ch, itM (Oo own) M (2 * n) = ⟨seed, 5, (dk0 0, l), ch, ⟨4096, 0, []⟩, 64, 2 * (n : Int), [own]⟩ ∧ Hs l (V0 seed) ∧ ch.length ≤ 100 := by
 have hn := hw.n
 obtain ⟨m, rfl⟩ : ∃ m, n = m + 1 := ⟨n - 1, by omega⟩
 obtain ⟨-, l, ch, e, h1, h2⟩ := grain hw hM m (by omega)
 obtain ⟨-, -, g3⟩ := gr_due (Oo own) seed l ch (cj own (m + 1) m) (t := 2 * (m : Int) + 2) (now := 2 * (m : Int) + 1) (by omega) (by omega)
 have uj := hw.up (j := m) (by omega)
 have uj1 := hw.up (j := m + 1) (by omega)
 have hl := cj_low own (m + 1) m
 obtain ⟨l', ch', f1, f2, f3⟩ := upd_held (M := ⟨seed, 5, (dk0 0, l), ch, ⟨4096, 0, []⟩, 64, 2 * (m : Int) + 1 + 1, []⟩) (O := Oo own) (c := cj own (m + 1) m) h1 uj.pos uj.y (updV_same ..) (by rw [hl, updV_ne (cj_ne (by omega))]; exact uj1.air seed) (fun x hx => by rw [updV_ne (nb_ne hx), uj.near seed x hx]; exact delay_air) (by rw [hl, cj_own]; exact decide_eq_true rfl)
 rw [updV_back _ _ (uj.air seed)] at f2
 refine ⟨l', ch', ?_, f2, by simp only at f3; omega⟩
 show tickM _ (itM (Oo own) M (2 * m + 1)) = _
 rw [e, g3, f1, hl, cj_own]
 have q1 : 2 * (m : Int) + 1 + 1 = 2 * ((m + 1 : Nat) : Int) := by omega
 show (⟨seed, 5, (dk0 0, l'), ch', ⟨4096, 0, []⟩, 64, 2 * (m : Int) + 1 + 1, [own]⟩ : Sm) = _
 rw [q1]
theorem grain_step (hw : Way own n) {M : Sm} (hM : ∃ l ch, M = Gr seed l ch (cj own n 0) 2 0 ∧ Hs l (updV (V0 seed) (cj own n 0) 3) ∧ ch.length ≤ 10) (k : Nat) (hk : k < 2 * n) :
  0 < (itM (Oo own) M k).q.l.length ∧ tickM (Oo own) (itM (Oo own) M k) = itM (Oo own) M (k + 1) ∧ Dry (Oo own) (startM (itM (Oo own) M k)) (dueM (itM (Oo own) M k)) ∧ Sok (itM (Oo own) M k) 600000 ∧ 1 ≤ (itM (Oo own) M k).budget ∧ (itM (Oo own) M k).budget ≤ 64 := by
 have hn := hw.n
 obtain ⟨h1, h2⟩ := grain hw hM (k / 2) (by omega)
 have h64 : (1 : Int) ≤ 64 ∧ (64 : Int) ≤ 64 := by decide
 have hp : 0 < ([((2 : Int) * ((k / 2 : Nat) : Int) + 2, cj own n (k / 2))] : List Go.Que.It).length := Nat.zero_lt_one
 rcases Nat.mod_two_eq_zero_or_one k with hk2 | hk2
 ·obtain ⟨l, ch, e, a1, a2⟩ := h1
  have ek : k = 2 * (k / 2) := by omega
  rw [← ek] at e
  obtain ⟨g1, -⟩ := gr_wait (Oo own) seed l ch (cj own n (k / 2)) (t := 2 * ((k / 2 : Nat) : Int) + 2) (now := 2 * ((k / 2 : Nat) : Int)) (by omega) (by omega)
  refine ⟨by rw [e]; exact hp, rfl, ?_, ?_, by rw [e]; exact h64.1, by rw [e]; exact h64.2⟩
  ·rw [e, g1]; intro i y hy; simp at hy
  ·rw [e]
   exact ⟨⟨Int.le_refl _, by simp only; omega⟩, by simp only; omega, by simp only; omega, Nat.zero_le _⟩
 ·obtain ⟨l, ch, e, a1, a2⟩ := h2
  have ek : k = 2 * (k / 2) + 1 := by omega
  rw [← ek] at e
  obtain ⟨g1, g2, -⟩ := gr_due (Oo own) seed l ch (cj own n (k / 2)) (t := 2 * ((k / 2 : Nat) : Int) + 2) (now := 2 * ((k / 2 : Nat) : Int) + 1) (by omega) (by omega)
  have uj := hw.up (j := k / 2) (by omega)
  refine ⟨by rw [e]; exact hp, rfl, ?_, ?_, by rw [e]; exact h64.1, by rw [e]; exact h64.2⟩
  ·rw [e, g1, g2]
   intro i y hy
   match i, hy with
   | 0, hy =>
     cases hy
     refine ⟨uj.sml, ?_⟩
     show wetK (atE l (cj own n (k / 2))) = false
     rw [a1.v, updV_same]
     decide
  ·rw [e]
   exact ⟨⟨Int.le_refl _, by simp only; omega⟩, by simp only; omega, by simp only; omega, Nat.zero_le _⟩
end
end Go.Proofs.YtalpkjfpmdpbiaaGreatDoor
namespace Go.Proofs.YtalpkjfpmdpbiaaGreatDoor
open Go Go.Vc Go.RowKit Go.Proofs Go.Chk Go.Runs Go.Code Go.Que Go.Flw
set_option maxRecDepth 100000
set_option maxHeartbeats 1000000 in
theorem SimOccupied_law (seed up : Int) (c : Ce) (w : World) (hup : inI up) : Calls Tryz.prog n_law19_SimOccupied #[.int .i64 seed, cev c, .int .i64 up] w fun e w' => e = .returned (.bool true) ∧ Ext w w' := by
 apply law19_SimOccupied.vc
 intro w0 e0
 have x0 : Ext w w0 := (Ext.rfl' _).of_alloc e0
 have z0 : w0.heap.size = w.heap.size + 1 := by rw [e0]; simp
 clear e0
 refine (Middle_spec c w0).mono ?_
 rintro e w1 ⟨rfl, x1⟩
 have z1 := x1.size
 have hm := midK_in c
 generalize midK c = m at *
 have wr3 : IntKind.wrap .i64 (m.2.1 + 3) = m.2.1 + 3 := wrap_in (by unfold inI; omega)
 refine ⟨_, _, _, rfl, x1.heap (by omega), fun w5 e5 w6 e6 w7 e7 w8 e8 => ?_⟩
 rw [wr3] at e7
 have x6 : Ext w1 w6 := ((Ext.rfl' _).of_alloc e5).of_setRow e6 (Nat.le_refl _)
 have z6 : w6.heap.size = w1.heap.size + 1 := by rw [e6, e5]; simp
 have r6 : Row w6 w1.heap.size (clv m) tCe := by rw [e6]; exact Row.set (by rw [e5]; exact Row.new w1 [_, _, _] _) _
 generalize hown : ((m.1, m.2.1 + 3, m.2.2) : Ce) = own at *
 have ho1 : m.1 = own.1 := by rw [← hown]
 have ho2 : m.2.1 + 3 = own.2.1 := by rw [← hown]
 have ho3 : m.2.2 = own.2.2 := by rw [← hown]
 rw [ho1, ho2, ho3] at e7
 have r7 : Row w7 w1.heap.size (clv own) tCe := by rw [e7]; exact Row.set r6 _
 have x7 : Ext w1 w7 := x6.of_setRow e7 (Nat.le_refl _)
 have z7 : w7.heap.size = w1.heap.size + 1 := by rw [e7]; simp [z6]
 have x8 : Ext w7 w8 := (Ext.rfl' _).of_alloc e8
 have z8 : w8.heap.size = w7.heap.size + 1 := by rw [e8]; simp
 have x18 := x7.tr x8
 have r8 := r7.ext x8
 clear e5 e6 e7 e8 r6 r7
 refine (begin_spec seed 64 ⟨some ⟨w7.heap.size, 0, none⟩, 0, 0⟩ rfl w8).mono ?_
 rintro e w9 ⟨s, o, t, F0, occ, s1, s2, s3, rfl, hS0, -, -, x9, fF⟩
 have z9 := x9.size
 have hb64 : min (max (64 : Int) 1) 64 = 64 := by decide
 have hS0 : SF F0 w9 s o t ⟨seed, 5, (dk0 0, l5 seed 5), [], ⟨4096, 0, []⟩, 64, 0, []⟩ occ := by
  have := hS0
  unfold M5 at this
  rw [hb64] at this
  exact this
 refine ⟨_, _, _, _, _, _, s1, s2, s3, ⟨none, 0, 0⟩, _, _, ⟨none, 0, 0⟩, _, _, ⟨none, 0, 0⟩, ⟨none, 0, 0⟩, rfl, x9.heap (by omega), x9.heap (by omega), fun w27 e27 w28 e28 => nope rfl ?_⟩
 have x28 : Ext w9 w28 := ((Ext.rfl' _).of_alloc e27).of_setRow e28 (Nat.le_refl _)
 have z28 : w28.heap.size = w9.heap.size + 1 := by rw [e28, e27]; simp
 clear e27 e28
 have hS28 := hS0.ext x28
 have r28 := r8.ext (x9.tr x28)
 have x028 : Ext w w28 := x0.tr (x1.tr (x18.tr (x9.tr x28)))
 have fF' : ∀ i, F0 i → w.heap.size ≤ i := fun i hi => by have := fF i hi; have := x18.size; omega
 have nf : ∀ {F1 F2 : Nat → Prop} {a b : World}, Turned F0 F1 w28 a → Turned F1 F2 a b → ∀ i, (i < w8.heap.size ∨ i = w9.heap.size) → b.heap[i]? = a.heap[i]? := fun ta tb i hi => tb.mod.same _ (by have := ta.mod.size; omega) fun hf => by
  rcases ta.sub _ hf with q | q
  ·have := hS0.lt q; have := fF i q; omega
  ·omega
 have nr : ∀ {F1 : Nat → Prop} {a : World}, Turned F0 F1 w28 a → Row a w1.heap.size (clv own) tCe := fun ta => r28.same (ta.mod.same _ (by omega) fun hf => by have := fF _ hf; omega)
 refine (sOccupy_spec hS28 (.func 18) #[] #[.pointer (some ⟨w1.heap.size, 0, none⟩)]).mono ?_
 rintro e w29 ⟨rfl, ⟨F1, hS1, t1⟩, -⟩
 refine ⟨rfl, nf (Turned.refl _ _) t1 _ (.inl (by omega)), nf (Turned.refl _ _) t1 _ (.inr rfl), ?_⟩
 have hO1 : Oc (.func (.func 18) #[] #[.pointer (some ⟨w1.heap.size, 0, none⟩)]) (Oo own) F1 w29 := ⟨fun i => i = w1.heap.size, fun i hi => by
  subst hi
  have := t1.mod.size
  refine ⟨by omega, fun hf => ?_⟩
  rcases t1.sub _ hf with q | q
  ·have := fF _ q; omega
  ·omega, fun w2 hk d hd => callV_of (by kernel_rfl) rfl (occ1_spec d own ((nr t1).same (hk _ rfl)))⟩
 refine (sWorld_spec hS1).mono ?_
 rintro e w30 ⟨rfl, hw⟩
 subst hw
 obtain ⟨Fw, hW, -, -⟩ := hS1.world
 refine ⟨_, rfl, rfl, rfl, nope rfl ((wView_spec hW).mono ?_)⟩
 rintro e w32 ⟨rfl, hw⟩
 subst hw
 refine ⟨_, rfl, rfl, rfl, ?_⟩
 rw [fnC_func, isNilF_func, AndL_nil]
 refine nope rfl ?_
 refine (around_spec up 4 w32 hup (by decide) (by unfold inI; omega)).mono ?_
 rintro e w34 ⟨rfl, hw⟩
 subst hw
 have had := around_bd up 4 (by decide)
 generalize around up 4 = u at *
 obtain ⟨n, hn⟩ : ∃ n : Nat, 1 + u = (n : Int) := ⟨(1 + u).toNat, by omega⟩
 have wq1 : IntKind.wrap .i64 (1 + u) = (n : Int) := by rw [wrap_in (by unfold inI; omega), hn]
 have hway : Way own n := ⟨by omega, by omega, by omega, by omega⟩
 have hwy := hway.y
 have wq2 : IntKind.wrap .i64 (own.2.1 + (n : Int)) = own.2.1 + n := wrap_in (by unfold inI; omega)
 have wq3 : IntKind.wrap .i64 (2 * (n : Int)) = 2 * n := wrap_in (by unfold inI; omega)
 have rown := nr t1
 refine ⟨_, rfl, rfl, rfl, own.1, by rw [rown.ld]; rfl, own.2.1, by rw [rown.ld]; rfl, own.2.2, by rw [rown.ld]; rfl, ?_⟩
 rw [wq1, wq2]
 have u0 := hway.up (j := 0) (by omega)
 have hc0 : cj own n 0 = (own.1, own.2.1 + (n : Int), own.2.2) := ce_eq rfl (by show own.2.1 + (n : Int) - ((0 : Nat) : Int) = _; omega) rfl
 obtain ⟨l1, ch1, a1, a2, a3, a4⟩ := edit_sand (M := ⟨seed, 5, (dk0 0, l5 seed 5), [], ⟨4096, 0, []⟩, 64, 0, []⟩) (V := V0 seed) (l5_hs seed) u0.pos u0.y (fun x hx => by rw [u0.near seed x hx]; exact delay_air)
 have hsk : Sok ⟨seed, 5, (dk0 0, l5 seed 5), [], ⟨4096, 0, []⟩, 64, 0, []⟩ 0 := ⟨n00, Nat.le_refl _, n0t, Nat.le_refl _⟩
 refine (sEdit_spec hS1 (own.1, own.2.1 + (n : Int), own.2.2) (by rw [← hc0]; exact u0.sml.wide) 3 (hsk.mono (by omega))).mono ?_
 rw [← hc0]
 rintro e w39 ⟨rfl, F2, hS2, t2⟩
 rw [a2] at hS2
 have T2 := t1.trans t2
 refine ⟨_, rfl, nf t1 t2 _ (.inl (by omega)), nf t1 t2 _ (.inr rfl), nope (by show ((setE (l5 seed 5) (cj own n 0) 3).2 != 0) = false; rw [show (setE (l5 seed 5) (cj own n 0) 3).2 = 0 from a1]; rfl) ?_⟩
 have hM : ∃ l ch, ({ seed := seed, cap := 5, T := (dk0 0, l1), ch := ch1, q := (qadd ⟨4096, 0, []⟩ (cj own n 0) (0 + 2)).1, budget := 64, now := 0, drops := [] } : Sm) = Gr seed l ch (cj own n 0) 2 0 ∧ Hs l (updV (V0 seed) (cj own n 0) 3) ∧ ch.length ≤ 10 := ⟨l1, ch1, rfl, a3, by simp only [List.length_nil] at a4; omega⟩
 refine (run_spec (O := Oo own) (2 * n) (itM (Oo own) ⟨seed, 5, (dk0 0, l1), ch1, (qadd ⟨4096, 0, []⟩ (cj own n 0) (0 + 2)).1, 64, 0, []⟩) 50 ⟨by have := hway.n; omega, by have := hway.n; omega⟩ hS2 (hO1.turned t2) (grain_step hway hM) (by obtain ⟨l, ch, q, -, -⟩ := grain_end hway hM; rw [q])).mono ?_
 obtain ⟨l3, ch3, g1, g2, g3⟩ := grain_end hway hM
 rw [g1]
 rintro e w41 ⟨rfl, F3, hS3, t3⟩
 have T3 := T2.trans t3
 refine ⟨_, rfl, nf T2 t3 _ (.inl (by omega)), nf T2 t3 _ (.inr rfl), (sDrops_spec hS3).mono ?_⟩
 rintro e w43 ⟨sd, rfl, hd, ⟨F4, hS4, t4⟩, -⟩
 have T4 := T3.trans t4
 have rown4 := nr T4
 refine ⟨sd, rfl, nf T3 t4 _ (.inl (by omega)), nf T3 t4 _ (.inr rfl), own.2.1, by rw [rown4.ld]; rfl, ?_⟩
 have z43 := T4.mod.size
 have f4v : ∀ x, atE l3 x = V0 seed x := g2.v
 refine ⟨fun q y wr => ∃ k : Nat, y = own.2.1 + k ∧ k + q = n + 1 ∧ Ext w43 wr, ⟨n + 1, rfl, rfl, 0, by omega, by omega, Ext.rfl' _⟩, ?_⟩
 rintro q us y wr ⟨k, rfl, hk, xr⟩
 have zr := xr.size
 have rownr := rown4.ext xr
 refine ⟨own.2.1, by rw [rownr.ld]; rfl, ?_⟩
 rw [wq2]
 refine Br.mk (fun hb => ?_) (fun hb => ?_)
 ·simp only [decide_eq_true_eq] at hb
  have hu : up0 (own.1, own.2.1 + (k : Int), own.2.2) := by
   have h1 := hway.x
   have h2 := hway.z
   have h3 := hway.n
   unfold up0
   simp only
   omega
  refine ⟨own.1, by rw [rownr.ld]; rfl, own.2.2, by rw [rownr.ld]; rfl, callV_mono' ((hS4.ext xr).tl.at (c := (own.1, own.2.1 + (k : Int), own.2.2)) hu.sml.wide.ok) ?_⟩
  rintro e w55 ⟨rfl, x55⟩
  have hair : atE l3 (own.1, own.2.1 + (k : Int), own.2.2) = 0 := (f4v _).trans (hu.air seed)
  have wk : IntKind.wrap .i64 (own.2.1 + (k : Int) + 1) = own.2.1 + ((k + 1 : Nat) : Int) := by rw [wrap_in (by unfold inI; omega)]; omega
  exact ⟨_, rfl, x55.heap (by omega), x55.heap (by omega), nope (by show (atE l3 (own.1, own.2.1 + (k : Int), own.2.2) != 0) = false; rw [hair]; rfl) ⟨q - 1, by omega, rfl, rfl, k + 1, wk, by omega, xr.tr x55⟩⟩
 ·rw [wq3]
  refine yes (by simp) ⟨_, _, _, Lo.wv rownr, fun w60 e60 => ?_⟩
  have x60 : Ext wr w60 := (Ext.rfl' _).of_alloc e60
  have z60 : w60.heap.size = wr.heap.size + 1 := by rw [e60]; simp
  have ro : Row w60 wr.heap.size (clv own) tCe := by rw [e60]; exact Row.new wr [_, _, _] _
  clear e60
  have hone : OwnK 0 tCe 3 w60 ⟨some ⟨wr.heap.size, 0, none⟩, 1, 1⟩ ([own].map clv) := OwnK.of_row (Nat.zero_le _) ro (by simp) (Nat.le_refl _) rfl (by simp)
  refine (sameCells_spec (a := sd) (b := ⟨some ⟨wr.heap.size, 0, none⟩, 1, 1⟩) (x := [own]) (y := [own]) ((hd.rd (by decide)).ext (xr.tr x60)) (hone.rd (by decide)) (by simp)).mono ?_
  rintro e w61 ⟨rfl, x61⟩
  have z61 := x61.size
  refine ⟨_, rfl, x61.heap (by omega), x61.heap (by omega), yes (by simp) ((lives19_spec w61).mono ?_)⟩
  rintro e w63 ⟨rfl, x63⟩
  obtain ⟨x43, -⟩ := T4.fresh x028 fF'
  exact ⟨true, rfl, x63.heap (by omega), x63.heap (by omega), rfl, x43.tr (xr.tr (x60.tr (x61.tr x63)))⟩
end Go.Proofs.YtalpkjfpmdpbiaaGreatDoor
