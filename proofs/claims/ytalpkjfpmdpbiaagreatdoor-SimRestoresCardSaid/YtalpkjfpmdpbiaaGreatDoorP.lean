import Derived.Test.YtalpkjfpmdpbiaaGreatDoorLib
set_option linter.all false
namespace Go.aD
open Go Go.Vc
abbrev Rn:=Int × Int
def aA(l:List Rn):List Int:=l.flatMap fun r=>List.replicate r.1.toNat r.2
def dB(out:List Rn)(r:Rn):List Rn:=
 if r.1<1 then out else
 match out.getLast? with
 |some q=>if q.2=r.2 then out.dropLast++ [(q.1+r.1,q.2)]else out++ [r]
 |none=>out++ [r]
def bk (c : List Int) : List Rn := c.foldl (fun o b => dB o (1, b)) []
def aC (l : List Rn) : Int := (l.map (·.1)).sum
inductive Nm : List Rn → Prop
 | nil : Nm []
 | snoc (l : List Rn) (r : Rn) (h : Nm l) (h1 : 1 ≤ r.1) (h2 : ∀ q, l.getLast? = some q → q.2 ≠ r.2) : Nm (l ++ [r])
theorem gE{o:List Rn}{r:Rn}(h:r.1<1):dB o r=o:=by unfold dB;rw [if_pos h]
theorem dq {l : List Rn} {q r : Rn} (h1 : 1 ≤ r.1) (e : q.2 = r.2) : dB (l ++ [q]) r = l ++ [(q.1 + r.1, q.2)] := by
 unfold dB
 have hl : (l ++ [q]).getLast? = some q := by simp
 rw [if_neg (by omega), hl]
 simp [e]
theorem bV {l : List Rn} {r : Rn} (h1 : 1 ≤ r.1) (h2 : ∀ q, l.getLast? = some q → q.2 ≠ r.2) : dB l r = l ++ [r] := by
 unfold dB
 rw [if_neg (by omega)]
 split
 ·rename_i q hq
  rw [if_neg (h2 q hq)]
 ·rfl
theorem lZ (l : List Rn) : l = [] ∨ ∃ m q, l = m ++ [q] := by
 rcases List.eq_nil_or_concat l with h | ⟨m, q, h⟩
 ·exact .inl h
 ·exact .inr ⟨m, q, by simpa using h⟩
theorem E8 (o : List Rn) {a c b : Int} (ha : 1 ≤ a) (hc : 1 ≤ c) : dB (dB o (a, b)) (c, b) = dB o (a + c, b) := by
 have hac : 1 ≤ a + c := by omega
 rcases lZ o with rfl | ⟨m, q, rfl⟩
 ·rw [bV (l := []) (r := (a, b)) ha (by simp), bV (l := []) (r := (a + c, b)) hac (by simp), dq (q := (a, b)) (r := (c, b)) hc rfl]
 ·by_cases e : q.2 = b
  ·rw [dq (r := (a, b)) ha e, dq (r := (a + c, b)) hac e, dq (q := (q.1 + a, q.2)) (r := (c, b)) hc e]
   simp [Int.add_assoc]
  ·have h2 : ∀ x : Int, ∀ p, (m ++ [q]).getLast? = some p → p.2 ≠ ((x, b) : Rn).2 := by
    intro x p hp
    simp at hp; subst hp; exact e
   rw [bV (r := (a, b)) ha (h2 a), bV (r := (a + c, b)) hac (h2 _), dq (q := (a, b)) (r := (c, b)) hc rfl]
theorem BM (o : List Rn) (b : Int) : ∀ n : Nat, (List.replicate n b).foldl (fun o b => dB o (1, b)) o = dB o ((n : Int), b)
 | 0 => by rw [gE (by simp)]; rfl
 | n + 1 => by
   rw [List.replicate_succ', List.foldl_append, BM o b n]
   show dB (dB o ((n : Int), b)) (1, b) = _
   rcases Nat.eq_zero_or_pos n with rfl | hn
   ·rw [gE (r := (((0 : Nat) : Int), b)) (by simp)]; rfl
   ·rw [E8 o (by omega) (by omega)]; rfl
theorem IM (c d : List Int) : bk (c ++ d) = d.foldl (fun o b => dB o (1, b)) (bk c) := by unfold bk; rw [List.foldl_append]
theorem rK (c : List Int) (r : Rn) : dB (bk c) r = bk (c ++ List.replicate r.1.toNat r.2) := by
 rw [IM, BM]
 rcases Int.lt_or_le r.1 1 with h | h
 ·rw [gE h, gE (by show ((r.1.toNat : Nat) : Int) < 1; omega)]
 ·rw [show ((r.1.toNat : Nat) : Int) = r.1 from by omega]
theorem Nm.push {o : List Rn} (h : Nm o) (r : Rn) : Nm (dB o r) := by
 rcases Int.lt_or_le r.1 1 with h1 | h1
 ·rw [gE h1]; exact h
 ·cases h with
  | nil => rw [bV h1 (by simp)]; exact .snoc _ _ .nil h1 (by simp)
  | snoc l q hl hq h2 =>
    by_cases e : q.2 = r.2
    ·rw [dq h1 e]
     exact .snoc _ _ hl (by show 1 ≤ q.1 + r.1; omega) h2
    ·have h3 : ∀ p, (l ++ [q]).getLast? = some p → p.2 ≠ r.2 := by
      intro p hp; simp at hp; subst hp; exact e
     rw [bV h1 h3]
     exact .snoc _ _ (.snoc _ _ hl hq h2) h1 h3
theorem wY (c : List Int) : Nm (bk c) := by
 have : ∀ (c : List Int) (o : List Rn), Nm o → Nm (c.foldl (fun o b => dB o (1, b)) o) := by
  intro c
  induction c with
  | nil => intro o h; exact h
  | cons b c ih => intro o h; exact ih _ (h.push _)
 exact this c [] .nil
theorem cK (l m : List Rn) : aA (l ++ m) = aA l ++ aA m := by unfold aA; rw [List.flatMap_append]
theorem ea(r:Rn):aA [r]=List.replicate r.1.toNat r.2:=by simp [aA]
theorem Nm.fix {l : List Rn} (h : Nm l) : bk (aA l) = l := by
 induction h with
 | nil => rfl
 | snoc l r hl h1 h2 ih =>
   rw [cK, ea, ← rK, ih, bV h1 h2]
theorem Nm.pos {l : List Rn} (h : Nm l) : ∀ r ∈ l, 1 ≤ r.1 := by
 induction h with
 | nil => simp
 | snoc l r hl h1 h2 ih =>
   intro q hq
   rcases List.mem_append.1 hq with hq | hq
   ·exact ih q hq
   ·simp at hq; rw [hq]; exact h1
theorem C9 {o : List Rn} (h : Nm o) (r : Rn) : aA (dB o r) = aA o ++ List.replicate r.1.toNat r.2 := by
 rcases Int.lt_or_le r.1 1 with h1 | h1
 ·rw [gE h1, show r.1.toNat = 0 from by omega]; simp
 ·cases h with
  | nil => rw [bV h1 (by simp), cK, ea]
  | snoc l q hl hq h2 =>
    by_cases e : q.2 = r.2
    ·rw [dq h1 e, cK, cK, ea, ea]
     show _ ++ List.replicate (q.1 + r.1).toNat q.2 = _
     rw [show (q.1 + r.1).toNat = q.1.toNat + r.1.toNat from by omega, ← List.replicate_append_replicate, e]
     simp
    ·rw [bV h1 (by intro p hp; simp at hp; subst hp; exact e), cK, ea]
theorem fo (c : List Int) : aA (bk c) = c := by
 have : ∀ (c : List Int) (o : List Rn), Nm o → aA (c.foldl (fun o b => dB o (1, b)) o) = aA o ++ c := by
  intro c
  induction c with
  | nil => intro o h; simp
  | cons b c ih => intro o h; rw [List.foldl_cons, ih _ (h.push _), C9 h]; simp
 rw [bk, this c [] .nil]; rfl
theorem BN (l m : List Rn) : aC (l ++ m) = aC l + aC m := by simp [aC]
theorem bq {l : List Rn} (h : ∀ r ∈ l, 0 ≤ r.1) : aC l = ((aA l).length : Nat) := by
 induction l with
 | nil => rfl
 | cons r l ih =>
   have := ih fun q hq => h q (.tail _ hq)
   have hr := h r (.head _)
   simp only [aC, List.map_cons, List.sum_cons] at this ⊢
   rw [this]
   simp [aA]
   omega
theorem eG (c : List Int) : aC (bk c) = (c.length : Nat) := by
 rw [bq fun r hr => by have := (wY c).pos r hr; omega, fo]
theorem Nm.Ka {l : List Rn} (h : Nm l) : l.length ≤ (aA l).length := by
 induction h with
 | nil => simp
 | snoc l r hl h1 h2 ih => rw [cK, ea]; simp; omega
theorem jb (c : List Int) : (bk c).length ≤ c.length := by
 have := (wY c).Ka
 rwa [fo] at this
end Go.aD
namespace Go.aD
theorem IN {l : List Rn} (h : ∀ r ∈ l, 0 ≤ r.1) {q : Rn} (hq : q ∈ l) : q.1 ≤ aC l := by
 induction l with
 | nil => cases hq
 | cons r l ih =>
   have hr := h r (.head _)
   have hl : 0 ≤ aC l := by rw [bq fun q hq => h q (.tail _ hq)]; omega
   have e : aC (r :: l) = r.1 + aC l := by simp [aC]
   rw [e]
   rcases List.mem_cons.1 hq with rfl | hq
   ·omega
   ·have := ih (fun q hq => h q (.tail _ hq)) hq; omega
theorem fG {c : List Int} {q : Rn} (hq : q ∈ bk c) : 1 ≤ q.1 ∧ q.1 ≤ (c.length : Nat) := by
 have h := (wY c).pos
 refine ⟨h q hq, ?_⟩
 rw [← eG]
 exact IN (fun r hr => by have := h r hr; omega) hq
def yD(c:List Int)(a b:Int):List Int:=(c.take b.toNat).drop a.toNat
theorem Hb (c : List Int) (n : Nat) (x a b : Int) (ha : 0 ≤ a) (hb : 0 ≤ b) :
  yD (c ++ List.replicate n x) a b = yD c a b ++ List.replicate (min b (c.length + n : Nat) - max a (c.length : Nat)).toNat x := by
 unfold yD
 rw [List.take_append, List.drop_append, List.take_replicate, List.drop_replicate, List.length_take]
 congr 2
 omega
end Go.aD
namespace Go.aD
def sC(c:List Int)(a b x:Int):List Int:=c.mapIdx fun i y=>if a<=(i:Int)/\(i:Int)<b then x else y
theorem E9(c:List Int)(a b x:Int):(sC c a b x).length=c.length:=by simp [sC]
theorem Da (c : List Int) (a b x : Int) (h : min (max b 0) (c.length : Int) ≤ min (max a 0) (c.length : Int)) : sC c a b x = c := by
 apply List.ext_getElem?
 intro i
 unfold sC
 rw [List.getElem?_mapIdx]
 rcases Nat.lt_or_ge i c.length with hi | hi
 ·rw [List.getElem?_eq_getElem hi]
  show some (if _ then x else _) = _
  rw [if_neg (by omega)]
 ·rw [List.getElem?_eq_none hi]; rfl
theorem zi (c : List Int) (a b x : Int) (h : min (max a 0) (c.length : Int) < min (max b 0) (c.length : Int)) :
  sC c a b x = yD c 0 (min (max a 0) (c.length : Int)) ++ List.replicate (min (max b 0) (c.length : Int) - min (max a 0) (c.length : Int)).toNat x ++ yD c (min (max b 0) (c.length : Int)) c.length := by
 have h1 : (yD c 0 (min (max a 0) (c.length : Int))).length = (min (max a 0) (c.length : Int)).toNat := by unfold yD; simp; omega
 apply List.ext_getElem?
 intro i
 unfold sC
 rw [List.getElem?_mapIdx, List.append_assoc]
 rcases Nat.lt_or_ge i c.length with hi | hi
 ·rw [List.getElem?_eq_getElem hi]
  show some (if _ then x else _) = _
  rcases Nat.lt_or_ge i (min (max a 0) (c.length : Int)).toNat with hl | hl
  ·rw [if_neg (by omega), List.getElem?_append_left (by omega)]
   unfold yD
   rw [List.getElem?_drop, List.getElem?_take]
   simp only [Int.toNat_zero, Nat.zero_add]
   rw [if_pos hl, List.getElem?_eq_getElem hi]
  ·rw [List.getElem?_append_right (by omega), h1]
   rcases Nat.lt_or_ge i (min (max b 0) (c.length : Int)).toNat with hm | hm
   ·rw [if_pos (by omega), List.getElem?_append_left (by rw [List.length_replicate]; omega), List.getElem?_replicate, if_pos (by omega)]
   ·rw [if_neg (by omega), List.getElem?_append_right (by rw [List.length_replicate]; omega), List.length_replicate]
    unfold yD
    rw [List.getElem?_drop, List.getElem?_take, if_pos (by omega)]
    rw [show (min (max b 0) (c.length : Int)).toNat + (i - (min (max a 0) (c.length : Int)).toNat - (min (max b 0) (c.length : Int) - min (max a 0) (c.length : Int)).toNat) = i from by omega]
    rw [List.getElem?_eq_getElem hi]
 ·rw [List.getElem?_eq_none hi]
  symm
  rw [Option.map_none, List.getElem?_eq_none]
  simp only [List.length_append, List.length_replicate, h1]
  unfold yD
  simp
  omega
theorem Fc (c : List Int) (i x : Int) (h0 : 0 ≤ i) (h1 : i < (c.length : Int)) : sC c i (i + 1) x = c.set i.toNat x := by
 apply List.ext_getElem?
 intro j
 unfold sC
 rw [List.getElem?_mapIdx, List.getElem?_set]
 rcases Nat.lt_or_ge j c.length with hj | hj
 ·rw [List.getElem?_eq_getElem hj]
  show some (if _ then x else _) = _
  by_cases e : i.toNat = j
  ·rw [if_pos (by omega), if_pos e, if_pos (by omega)]
  ·rw [if_neg (by omega), if_neg e]
 ·rw [List.getElem?_eq_none hj, if_neg (by omega)]; rfl
def EG (c : List Int) (i : Int) : Int := if i < 0 then -1 else c.getD i.toNat (-1)
theorem IP (c : List Int) (i : Int) (h : i < 0 ∨ (c.length : Int) ≤ i) : EG c i = -1 := by
 unfold EG
 split
 ·rfl
 ·rw [List.getD_eq_getElem?_getD, List.getElem?_eq_none (by omega)]; rfl
theorem Kb (c d : List Int) (n : Nat) (x i : Int) (h0 : (c.length : Int) ≤ i) (h1 : i < (c.length : Int) + n) : EG (c ++ List.replicate n x ++ d) i = x := by
 unfold EG
 rw [if_neg (by omega), List.getD_eq_getElem?_getD, List.append_assoc, List.getElem?_append_right (by omega), List.getElem?_append_left (by rw [List.length_replicate]; omega), List.getElem?_replicate, if_pos (by omega)]
 rfl
def pM (may : Int → Bool) : Option Int → Int → List Rn → Bool
 | _, left, [] => left == 0
 | prev, left, r :: t => if r.1 < 1 ∨ r.1 > left ∨ may r.2 = false ∨ prev = some r.2 then false else pM may (some r.2) (left - r.1) t
def kQ (may : Int → Bool) (l : List Rn) (n : Int) : Bool := decide (0 < n) && pM may none n l
theorem BO {may : Int → Bool} : ∀ {l : List Rn} {prev : Option Int} {left : Int}, pM may prev left l = true → aC l = left
 | [], _, left, h => by simp [pM] at h; rw [h]; rfl
 | r :: t, prev, left, h => by
   unfold pM at h
   split at h
   ·cases h
   ·have := BO h
    simp only [aC, List.map_cons, List.sum_cons] at this ⊢
    omega
theorem tp {may : Int → Bool} : ∀ {l : List Rn} {prev : Option Int} {left : Int}, (∀ r ∈ l, 1 ≤ r.1 ∧ may r.2 = true) → (∀ i q r, l[i]? = some q → l[i + 1]? = some r → q.2 ≠ r.2) → (∀ r, l.head? = some r → prev ≠ some r.2) → aC l = left → pM may prev left l = true
 | [], _, left, _, _, _, h => by simp [pM, ← h, aC]
 | r :: t, prev, left, h1, h2, h3, h => by
   have hr := h1 r (.head _)
   have ht : 0 ≤ aC t := by rw [bq fun q hq => by have := h1 q (.tail _ hq); omega]; omega
   have e : aC (r :: t) = r.1 + aC t := by simp [aC]
   unfold pM
   rw [if_neg (by
    have := h3 r rfl
    rintro (h | h | h | h)
    ·omega
    ·omega
    ·rw [hr.2] at h; cases h
    ·exact this h)]
   refine tp (fun q hq => h1 q (.tail _ hq)) (fun i q s hq hs => h2 (i + 1) q s (by simpa using hq) (by simpa using hs)) (fun q hq => ?_) (by omega)
   have := h2 0 r q rfl (by cases t <;> simp_all)
   intro e2; exact this (Option.some.inj e2)
theorem Nm.next {l : List Rn} (h : Nm l) : ∀ i q r, l[i]? = some q → l[i + 1]? = some r → q.2 ≠ r.2 := by
 induction h with
 | nil => intro i q r h; simp at h
 | snoc l p hl h1 h2 ih =>
   intro i q r hq hr
   rcases Nat.lt_or_ge (i + 1) l.length with hlt | hge
   ·rw [List.getElem?_append_left (by omega)] at hq hr
    exact ih i q r hq hr
   ·have hi := (List.getElem?_eq_some_iff.1 hr).1
    simp at hi
    have : i + 1 = l.length := by omega
    rw [List.getElem?_append_left (by omega)] at hq
    rw [List.getElem?_append_right (by omega), this] at hr
    simp at hr; subst hr
    refine h2 q ?_
    rw [List.getLast?_eq_getElem?, show l.length - 1 = i from by omega]
    exact hq
theorem EN {l : List Rn} {r : Rn} (h : r ∈ l) (h1 : 1 ≤ r.1) : r.2 ∈ aA l := by
 unfold aA
 refine List.mem_flatMap.2 ⟨r, h, ?_⟩
 rw [List.mem_replicate]
 exact ⟨by omega, rfl⟩
end Go.aD
namespace Go.aD
theorem IG {c : List Int} {i : Int} (h0 : 0 ≤ i) (h1 : i < (c.length : Int)) : c[i.toNat]? = some (EG c i) := by
 unfold EG
 rw [if_neg (by omega), List.getD_eq_getElem?_getD, List.getElem?_eq_getElem (by omega)]; rfl
end Go.aD
namespace Go.Code
open Go Go.Vc Go.aD
def pL : Nat → Int → List Int
 | 0, _ => []
 | k + 1, x => if x < 128 then [x] else (128 + x % 128) :: pL k (x / 128)
def kO(n:Int):List Int:=if n<0\/n>1048576 then []else pL 3 n
def kP : Nat → Nat → Int → List Int → Int × Int × Int
 | 0, _, _, _ => (0, 0, 2)
 | _ + 1, _, _, [] => (0, 0, 3)
 | k + 1, i, n, c :: t => if c ≥ 128 then kP k (i + 1) (n + c % 128 * 128 ^ i) t
   else if (c = 0 ∧ 0 < i) ∨ n + c % 128 * 128 ^ i > 1048576 then (0, 0, 2) else (n + c % 128 * 128 ^ i, (i : Int) + 1, 0)
def bD(b:List Int):Int × Int × Int:=kP 3 0 0 b
theorem wrap_u8(x:Int):IntKind.wrap .u8 x=x % 256:=by
 unfold IntKind.wrap
 simp [IntKind.bits,IntKind.signed]
theorem KN (x : Int) (h : 0 ≤ x) : AR .u8 (IntKind.wrap .u8 x) 128 = 128 + x % 128 := by
 rw [wrap_u8]
 have key : ∀ a < 256, AR .u8 ((a : Nat) : Int) 128 = 128 + ((a : Nat) : Int) % 128 := by decide +kernel
 have := key (x % 256).toNat (by omega)
 rw [show (((x % 256).toNat : Nat) : Int) = x % 256 from by omega] at this
 rw [this]; omega
theorem ED (c : Int) (h : 0 ≤ c) (h' : c < 256) : gM .u8 c 128 = c % 128 := by
 have key : ∀ a < 256, gM .u8 ((a : Nat) : Int) 128 = ((a : Nat) : Int) % 128 := by decide +kernel
 have := key c.toNat (by omega)
 rwa [show ((c.toNat : Nat) : Int) = c from by omega] at this
theorem JR (n c k : Nat) (h : n < 2 ^ k) (hb : n + c * 2 ^ k < 4611686018427387904) : AR .i64 (n : Int) ((c * 2 ^ k : Nat) : Int) = ((n + c * 2 ^ k : Nat) : Int) := by
 unfold AR
 have e1 : ∀ m : Nat, m < 4611686018427387904 → (BitVec.ofInt IntKind.i64.bits (m : Int)).toNat = m := by
  intro m hm
  rw [BitVec.toNat_ofInt]
  show ((m : Int) % ((2 ^ 64 : Nat) : Int)).toNat = m
  rw [show ((2 ^ 64 : Nat) : Int) = 18446744073709551616 from by decide]
  omega
 rw [BitVec.toNat_or, e1 n (by omega), e1 _ (by omega), Nat.or_comm]
 have := Nat.shiftLeft_add_eq_or_of_lt h c
 rw [Nat.shiftLeft_eq] at this
 rw [← this, Nat.add_comm]
 exact wI
end Go.Code
namespace Go.Code
open Go Go.Vc Go.aD
theorem JS (k : Nat) (hk : k < 3) (n c : Int) (h0 : 0 ≤ n) (h1 : n < 128 ^ k) (hc : 0 ≤ c) (hc' : c < 256) :
  AR .i64 n (IntKind.wrap .i64 ((IntKind.wrap .i64 (gM .u8 c 128)) * 2 ^ (min ((IntKind.wrap .i64 (7 * (k : Int))) : Int).toNat 64))) = n + c % 128 * 128 ^ k ∧ 0 ≤ IntKind.wrap .i64 (7 * (k : Int)) := by
 have hw := aj (n := 7 * (k : Int)) (by unfold inI; omega)
 rw [hw, ED c hc hc', aj (n := c % 128) (by unfold inI; omega)]
 refine ⟨?_, by omega⟩
 have e : ((2 : Int) ^ (min ((7 * (k : Int)) : Int).toNat 64)) = 128 ^ k := by
  have : k = 0 ∨ k = 1 ∨ k = 2 := by omega
  rcases this with rfl | rfl | rfl <;> decide
 rw [e]
 have hp : (128 : Int) ^ k ≤ 16384 ∧ 1 ≤ (128 : Int) ^ k := by
  have : k = 0 ∨ k = 1 ∨ k = 2 := by omega
  rcases this with rfl | rfl | rfl <;> decide
 have hm : c % 128 * 128 ^ k ≤ 127 * 16384 := by
  have : k = 0 ∨ k = 1 ∨ k = 2 := by omega
  rcases this with rfl | rfl | rfl <;> simp <;> omega
 have hm0 : 0 ≤ c % 128 * 128 ^ k := Int.mul_nonneg (by omega) (by omega)
 rw [aj (n := c % 128 * 128 ^ k) (by unfold inI; omega)]
 have e7 : ((2 ^ (7 * k) : Nat) : Int) = 128 ^ k := by
  have : k = 0 ∨ k = 1 ∨ k = 2 := by omega
  rcases this with rfl | rfl | rfl <;> decide
 have e2 : c % 128 * 128 ^ k = (((c % 128).toNat * 2 ^ (7 * k) : Nat) : Int) := by
  rw [Int.natCast_mul, e7, show (((c % 128).toNat : Nat) : Int) = c % 128 from by omega]
 have := JR n.toNat (c % 128).toNat (7 * k) (by
  have : ((n.toNat : Nat) : Int) < ((2 ^ (7 * k) : Nat) : Int) := by rw [e7]; omega
  omega) (by
  have : (((c % 128).toNat * 2 ^ (7 * k) : Nat) : Int) ≤ 127 * 16384 := by rw [← e2]; exact hm
  omega)
 rw [e2, show n = ((n.toNat : Nat) : Int) from by omega]
 rw [this]; simp
theorem pB {k j : Nat} {n c : Int} {t : List Int} : kP (j + 1) k n (c :: t) = if c ≥ 128 then kP j (k + 1) (n + c % 128 * 128 ^ k) t
   else if (c = 0 ∧ 0 < k) ∨ n + c % 128 * 128 ^ k > 1048576 then (0, 0, 2) else (n + c % 128 * 128 ^ k, (k : Int) + 1, 0) := rfl
theorem Ba (k : Nat) (n c : Int) (h1 : n < 128 ^ k) : n + c % 128 * 128 ^ k < 128 ^ (k + 1) := by
 have hp : 0 ≤ (128 : Int) ^ k := Int.pow_nonneg (by omega)
 have : c % 128 * 128 ^ k ≤ 127 * 128 ^ k := Int.mul_le_mul_of_nonneg_right (by omega) hp
 rw [Int.pow_succ]; omega
end Go.Code
namespace Go.Code
open Go Go.Vc Go.aD
def wC : Int → List Rn → Bool
 | _, [] => true
 | left, r :: t => if r.1 < 1 ∨ r.1 > left then false else wC (left - r.1) t
theorem Bb : ∀ {l : List Rn} {left : Int}, wC left l = true → (∀ r ∈ l, 1 ≤ r.1) ∧ (l ≠ [] → aC l ≤ left)
 | [], _, _ => ⟨by simp, fun h => absurd rfl h⟩
 | r :: t, left, h => by
   unfold wC at h
   split at h
   ·cases h
   ·obtain ⟨h1, h2⟩ := Bb h
    refine ⟨fun q hq => ?_, fun _ => ?_⟩
    ·rcases List.mem_cons.1 hq with rfl | hq
     ·omega
     ·exact h1 q hq
    ·have e : aC (r :: t) = r.1 + aC t := by simp [aC]
     by_cases ht : t = []
     ·subst ht; rw [e]; simp [aC]; omega
     ·have := h2 ht; omega
def okW (may : Int → Bool) (l : List Rn) : Bool := wC 1048576 l && kQ may l (aC l)
def lY(l:List Rn):List Int:=l.flatMap fun r=>r.2 % 256::kO r.1
theorem Ip (l m : List Rn) : lY (l ++ m) = lY l ++ lY m := by unfold lY; rw [List.flatMap_append]
theorem Gt {l : List Rn} {k : Nat} {r : Rn} (hr : l[k]? = some r) : lY (l.take (k + 1)) = lY (l.take k) ++ (r.2 % 256 :: kO r.1) := by
 rw [List.take_add_one, hr, Ip]; simp [lY]
theorem Bc : ∀ (k : Nat) (x : Int), (pL k x).length ≤ k
 | 0, _ => by simp [pL]
 | k + 1, x => by
   unfold pL
   split
   ·simp
   ·have := Bc k (x / 128); simp; omega
theorem Be(n:Int):(kO n).length<=3:=by
 unfold kO
 split
 ·simp
 ·exact Bc 3 n
theorem DN(l:List Rn):(lY l).length<=4*l.length:=by
 induction l with
 |nil=>simp [lY]
 |cons r l ih=>
  have:=Be r.1
  unfold lY at ih ⊢
  rw [List.flatMap_cons,List.length_append,List.length_cons,List.length_cons]
  omega
theorem DS : ∀ (k : Nat) (x : Int), 0 ≤ x → ∀ c ∈ pL k x, 0 ≤ c ∧ c < 256
 | 0, _, _, c, h => by simp [pL] at h
 | k + 1, x, hx, c, h => by
   unfold pL at h
   split at h
   ·simp at h; omega
   ·rcases List.mem_cons.1 h with rfl | h
    ·omega
    ·exact DS k (x / 128) (by omega) c h
theorem Iq (n : Int) : ∀ c ∈ kO n, 0 ≤ c ∧ c < 256 := by
 intro c h
 unfold kO at h
 split at h
 ·simp at h
 ·exact DS 3 n (by omega) c h
theorem JO(l:List Rn):∀c ∈ lY l,0<=c/\c<256:=by
 intro c h
 unfold lY at h
 obtain⟨r,_,hc⟩:=List.mem_flatMap.1 h
 rcases List.mem_cons.1 hc with rfl|hc
 ·omega
 ·exact Iq r.1 c hc
end Go.Code
namespace Go.Code
open Go Go.Vc Go.aD
end Go.Code
namespace Go.Code
open Go Go.Vc Go.aD
theorem yX : ∀ {l : List Rn} {left : Int}, (∀ r ∈ l, 1 ≤ r.1) → aC l ≤ left → wC left l = true
 | [], _, _, _ => rfl
 | r :: t, left, h, hs => by
   have e : aC (r :: t) = r.1 + aC t := by simp [aC]
   have h1 := h r (.head _)
   have ht : 0 ≤ aC t := by rw [bq fun q hq => by have := h q (.tail _ hq); omega]; omega
   unfold wC
   rw [if_neg (by omega)]
   exact yX (fun q hq => h q (.tail _ hq)) (by omega)
theorem JT {may : Int → Bool} {l : List Rn} (h : Nm l) (hm : ∀ r ∈ l, may r.2 = true) (hs : aC l ≤ 1048576) (hne : l ≠ []) : okW may l = true := by
 unfold okW
 rw [yX h.pos hs]
 unfold kQ
 have hp : 0 < aC l := by
  cases l with
  | nil => exact absurd rfl hne
  | cons r t =>
    have e : aC (r :: t) = r.1 + aC t := by simp [aC]
    have h1 := h.pos r (.head _)
    have ht : 0 ≤ aC t := by rw [bq fun q hq => by have := h.pos q (.tail _ hq); omega]; omega
    omega
 rw [decide_eq_true hp, tp (fun r hr => ⟨h.pos r hr, hm r hr⟩) h.next (fun r _ => by simp) rfl]
 rfl
end Go.Code
namespace Go.Code
open Go Go.Vc Go.aD
def hJ (may : Int → Bool) : Nat → List Int → Int → Int → List Rn → List Rn × Int
 | 0, _, _, _, _ => ([], 3)
 | _ + 1, [], n, _, acc => if n > 0 then ([], 3) else (acc, 0)
 | f + 1, c :: t, n, last, acc =>
   if may c = false ∨ c = last then ([], 2)
   else if (bD t).2.2 ≠ 0 then ([], (bD t).2.2)
   else if (bD t).1 = 0 ∨ (bD t).1 > n then ([], 2)
   else if n - (bD t).1 = 0 then (if t.drop (bD t).2.1.toNat = [] then (acc ++ [((bD t).1, c)], 0) else ([], 2))
   else hJ may f (t.drop (bD t).2.1.toNat) (n - (bD t).1) c (acc ++ [((bD t).1, c)])
def bj (may : Int → Bool) (b : List Int) (n : Int) : List Rn × Int := hJ may (b.length + 1) b n (-1) []
theorem rN : ∀ (k i : Nat) (m : Int) (b : List Int), 0 ≤ m → (kP k i m b).2.2 = 0 → 0 ≤ (kP k i m b).1 ∧ (kP k i m b).1 ≤ 1048576 ∧ (i : Int) + 1 ≤ (kP k i m b).2.1 ∧ (kP k i m b).2.1 ≤ (i : Int) + b.length
 | 0, _, _, _, _, h => by simp [kP] at h
 | k + 1, i, m, [], _, h => by simp [kP] at h
 | k + 1, i, m, c :: t, h0, h => by
   have hp : 0 ≤ c % 128 * 128 ^ i := Int.mul_nonneg (by omega) (Int.pow_nonneg (by omega))
   rw [pB] at h ⊢
   split
   ·rename_i hc
    rw [if_pos hc] at h
    have := rN k (i + 1) _ t (by omega) h
    simp only [List.length_cons]
    omega
   ·rename_i hc
    rw [if_neg hc] at h
    split
    ·rename_i hz; rw [if_pos hz] at h; simp at h
    ·rename_i hz
     simp only [List.length_cons]
     refine ⟨by omega, ?_, by omega, by omega⟩
     rcases Int.lt_or_le 1048576 (m + c % 128 * 128 ^ i) with hh | hh
     ·exact absurd (.inr hh) hz
     ·exact hh
end Go.Code
namespace Go.Code
open Go Go.Vc Go.aD
theorem zy {may : Int → Bool} {f : Nat} {n last : Int} {acc : List Rn} : hJ may (f + 1) [] n last acc = if n > 0 then ([], 3) else (acc, 0) := rfl
theorem vh (may : Int → Bool) (f : Nat) (c : Int) (t : List Int) (n last : Int) (acc : List Rn) : hJ may (f + 1) (c :: t) n last acc =
  if may c = false ∨ c = last then ([], 2)
  else if (bD t).2.2 ≠ 0 then ([], (bD t).2.2)
  else if (bD t).1 = 0 ∨ (bD t).1 > n then ([], 2)
  else if n - (bD t).1 = 0 then (if t.drop (bD t).2.1.toNat = [] then (acc ++ [((bD t).1, c)], 0) else ([], 2))
  else hJ may f (t.drop (bD t).2.1.toNat) (n - (bD t).1) c (acc ++ [((bD t).1, c)]) := rfl
theorem zA {may : Int → Bool} : ∀ (f : Nat) (b : List Int) (n last : Int) (acc : List Rn), (hJ may f b n last acc).1.length ≤ acc.length + b.length
 | 0, _, _, _, _ => by simp [hJ]
 | f + 1, [], n, _, acc => by rw [zy]; split <;> simp
 | f + 1, c :: t, n, last, acc => by
   rw [vh]
   split
   ·simp
   split
   ·simp
   split
   ·simp
   split
   ·split <;> simp
   ·have := zA (may := may) f (t.drop (bD t).2.1.toNat) (n - (bD t).1) c (acc ++ [((bD t).1, c)])
    simp only [List.length_append, List.length_cons, List.length_nil, List.length_drop] at this ⊢
    omega
theorem FA {may : Int → Bool} (b : List Int) (n : Int) : (bj may b n).1.length ≤ b.length := by
 have := zA (may := may) (b.length + 1) b n (-1) []
 simpa [bj] using this
def dW(may:Int->Bool):Int->List Rn->Prop
 |_,[]=>True
 |last,r::t=>1<=r.1/\r.1<=1048576/\0<=r.2/\r.2<256/\may r.2=true/\r.2≠last/\dW may r.2 t
theorem dW.pos{may:Int->Bool}:∀{l:List Rn}{last:Int},dW may last l->∀r ∈ l,1<=r.1
 | [],_,_=>by simp
 |q::t,_,h=>by
  obtain⟨h1,_,_,_,_,_,h7⟩:=h
  intro r hr
  rcases List.mem_cons.1 hr with rfl|hr
  ·exact h1
  ·exact h7.pos r hr
theorem Cm (r : Rn) (t : List Rn) (h : 0 ≤ r.2 ∧ r.2 < 256) : lY (r :: t) = r.2 :: (kO r.1 ++ lY t) := by
 unfold lY
 rw [List.flatMap_cons, Int.emod_eq_of_lt h.1 h.2]; rfl
theorem FB (r : Rn) (t : List Rn) : aC (r :: t) = r.1 + aC t := by simp [aC]
theorem HN {t : List Int} (hi : ∀ c ∈ t, 0 ≤ c ∧ c < 256) (h : (bD t).2.2 = 0) : kO (bD t).1 = t.take (bD t).2.1.toNat := by
 unfold bD at h ⊢
 cases t with
 | nil => simp [kP] at h
 | cons a t =>
   have ha := hi a (.head _)
   rw [pB] at h ⊢
   split
   ·rename_i ha2
    rw [if_pos ha2] at h
    cases t with
    | nil => simp [kP] at h
    | cons b t =>
      have hb := hi b (.tail _ (.head _))
      rw [pB] at h ⊢
      split
      ·rename_i hb2
       rw [if_pos hb2] at h
       cases t with
       | nil => simp [kP] at h
       | cons c t =>
         have hc := hi c (.tail _ (.tail _ (.head _)))
         rw [pB] at h ⊢
         split
         ·rename_i hc2
          rw [if_pos hc2] at h
          simp [kP] at h
         ·rename_i hc2
          rw [if_neg hc2] at h
          split
          ·rename_i hz; rw [if_pos hz] at h; simp at h
          ·rename_i hz
           have e : (0 + a % 128 * 128 ^ 0 + b % 128 * 128 ^ (0 + 1) + c % 128 * 128 ^ (0 + 1 + 1) : Int) = a % 128 + b % 128 * 128 + c % 128 * 16384 := by
            simp
           rw [e] at hz ⊢
           have hc0 : c ≠ 0 := fun e0 => hz (.inl ⟨e0, by omega⟩)
           have hle : a % 128 + b % 128 * 128 + c % 128 * 16384 ≤ 1048576 := by
            rcases Int.lt_or_le 1048576 (a % 128 + b % 128 * 128 + c % 128 * 16384) with hh | hh
            ·exact absurd (.inr hh) hz
            ·exact hh
           have ec : c % 128 = c := by omega
           rw [ec] at hle ⊢
           unfold kO
           rw [if_neg (by omega)]
           simp only [pL]
           rw [if_neg (by omega), if_neg (by omega), if_pos (by omega)]
           have e1 : 128 + (a % 128 + b % 128 * 128 + c * 16384) % 128 = a := by omega
           have e2 : 128 + (a % 128 + b % 128 * 128 + c * 16384) / 128 % 128 = b := by omega
           have e3 : (a % 128 + b % 128 * 128 + c * 16384) / 128 / 128 = c := by omega
           rw [e1, e2, e3]
           rfl
      ·rename_i hb2
       rw [if_neg hb2] at h
       split
       ·rename_i hz; rw [if_pos hz] at h; simp at h
       ·rename_i hz
        have e : (0 + a % 128 * 128 ^ 0 + b % 128 * 128 ^ (0 + 1) : Int) = a % 128 + b % 128 * 128 := by simp
        rw [e] at hz ⊢
        have hb0 : b ≠ 0 := fun e0 => hz (.inl ⟨e0, by omega⟩)
        have ec : b % 128 = b := by omega
        rw [ec] at hz ⊢
        unfold kO
        rw [if_neg (by omega)]
        simp only [pL]
        rw [if_neg (by omega), if_pos (by omega)]
        have e1 : 128 + (a % 128 + b * 128) % 128 = a := by omega
        have e2 : (a % 128 + b * 128) / 128 = b := by omega
        rw [e1, e2]
        rfl
   ·rename_i ha2
    rw [if_neg ha2] at h
    split
    ·rename_i hz; rw [if_pos hz] at h; simp at h
    ·have ec : a % 128 = a := by omega
     rw [ec]
     have e : (0 + a * 128 ^ 0 : Int) = a := by simp
     rw [e]
     unfold kO
     rw [if_neg (by omega)]
     simp only [pL]
     rw [if_pos (by omega)]
     rfl
theorem vi {may : Int → Bool} : ∀ (f : Nat) (b : List Int) (n last : Int) (acc : List Rn), (∀ c ∈ b, 0 ≤ c ∧ c < 256) → 1 ≤ n → (hJ may f b n last acc).2 = 0 →
  ∃ l, (hJ may f b n last acc).1 = acc ++ l ∧ lY l = b ∧ dW may last l ∧ aC l = n ∧ l ≠ []
 | 0, _, _, _, _, _, _, h => by simp [hJ] at h
 | f + 1, [], n, _, acc, _, hn, h => by rw [zy, if_pos (by omega)] at h; simp at h
 | f + 1, c :: t, n, last, acc, hi, hn, h => by
   have hc := hi c (.head _)
   have ht : ∀ c ∈ t, 0 ≤ c ∧ c < 256 := fun q hq => hi q (.tail _ hq)
   rw [vh] at h ⊢
   split
   ·rename_i h1; rw [if_pos h1] at h; simp at h
   rename_i h1
   rw [if_neg h1] at h
   split
   ·rename_i h2; rw [if_pos h2] at h; exact absurd h h2
   rename_i h2
   rw [if_neg h2] at h
   split
   ·rename_i h3; rw [if_pos h3] at h; simp at h
   rename_i h3
   rw [if_neg h3] at h
   have h2' : (bD t).2.2 = 0 := Decidable.not_not.1 h2
   have hd := rN 3 0 0 t (by omega) h2'
   have hnum := HN ht h2'
   rw [show kP 3 0 0 t = bD t from rfl] at hd
   generalize hdg : bD t = d at *
   obtain ⟨sz, k, er⟩ := d
   simp only at h h3 hd hnum ⊢
   have hmay : may c = true := by
    cases hm : may c with
    | true => rfl
    | false => exact absurd (.inl hm) h1
   have hcl : c ≠ last := fun e => h1 (.inr e)
   have htk : kO sz ++ t.drop k.toNat = t := by rw [hnum]; exact List.take_append_drop _ _
   split
   ·rename_i h4
    rw [if_pos h4] at h
    split
    ·rename_i h5
     refine ⟨[(sz, c)], rfl, ?_, ⟨by show 1 ≤ sz; omega, by show sz ≤ 1048576; omega, hc.1, hc.2, hmay, hcl, trivial⟩, by simp [aC]; omega, by simp⟩
     rw [Cm _ _ hc]
     rw [h5, List.append_nil] at htk
     simp [htk, lY]
    ·rename_i h5; rw [if_neg h5] at h; simp at h
   ·rename_i h4
    rw [if_neg h4] at h
    obtain ⟨l, e1, e2, e3, e4, e5⟩ := vi f (t.drop k.toNat) (n - sz) c (acc ++ [(sz, c)]) (fun q hq => ht q (List.mem_of_mem_drop hq)) (by omega) h
    refine ⟨(sz, c) :: l, by rw [e1]; simp, ?_, ⟨by show 1 ≤ sz; omega, by show sz ≤ 1048576; omega, hc.1, hc.2, hmay, hcl, e3⟩, by rw [FB]; show sz + aC l = n; omega, by simp⟩
    rw [Cm _ _ hc, e2]
    show c :: (kO sz ++ t.drop k.toNat) = _
    rw [htk]
theorem dW.of {may : Int → Bool} : ∀ {l : List Rn} {last : Int}, (∀ r ∈ l, 1 ≤ r.1 ∧ r.1 ≤ 1048576 ∧ 0 ≤ r.2 ∧ r.2 < 256 ∧ may r.2 = true) → (∀ i q r, l[i]? = some q → l[i + 1]? = some r → q.2 ≠ r.2) → (∀ r, l.head? = some r → r.2 ≠ last) → dW may last l
 | [], _, _, _, _ => trivial
 | r :: t, last, h1, h2, h3 => by
   obtain ⟨a, b, c, d, e⟩ := h1 r (.head _)
   refine ⟨a, b, c, d, e, h3 r rfl, dW.of (fun q hq => h1 q (.tail _ hq)) (fun i q s hq hs => h2 (i + 1) q s (by simpa using hq) (by simpa using hs)) (fun q hq => ?_)⟩
   have := h2 0 r q rfl (by cases t <;> simp_all)
   exact fun e => this e.symm
theorem dW.next {may : Int → Bool} : ∀ {l : List Rn} {last : Int}, dW may last l → ∀ i q r, l[i]? = some q → l[i + 1]? = some r → q.2 ≠ r.2
 | [], _, _, i, q, r, h, _ => by simp at h
 | [x], _, _, i, q, r, h, h' => by simp at h'
 | x :: y :: t, _, h, 0, q, r, hq, hr => by
   simp at hq hr; subst hq; subst hr
   exact fun e => h.2.2.2.2.2.2.2.2.2.2.2.1 e.symm
 | x :: y :: t, _, h, i + 1, q, r, hq, hr => h.2.2.2.2.2.2.next i q r (by simpa using hq) (by simpa using hr)
theorem dW.mem{may:Int->Bool}:∀{l:List Rn}{last:Int},dW may last l->∀r ∈ l,1<=r.1/\r.1<=1048576/\0<=r.2/\r.2<256/\may r.2=true
 | [],_,_,r,h=>by cases h
 |q::t,_,h,r,hr=>by
  rcases List.mem_cons.1 hr with rfl|hr
  ·exact⟨h.1,h.2.1,h.2.2.1,h.2.2.2.1,h.2.2.2.2.1⟩
  ·exact h.2.2.2.2.2.2.mem r hr
theorem dW.kQ {may : Int → Bool} {l : List Rn} {last : Int} (h : dW may last l) (hne : 1 ≤ aC l) : kQ may l (aC l) = true := by
 unfold Go.aD.kQ
 rw [decide_eq_true (by omega), tp (fun r hr => ⟨h.pos r hr, (h.mem r hr).2.2.2.2⟩) h.next (fun r _ => by simp) rfl]
 rfl
end Go.Code
namespace Go.bY
open Go Go.Vc
abbrev Ce:=Int × Int × Int
abbrev Po:=Int × Int
theorem KM {a b : Int} (hb : 0 < b) : (a.tmod b < 0 → a / b = a.tdiv b - 1 ∧ a % b = a.tmod b + b) ∧ (0 ≤ a.tmod b → a / b = a.tdiv b ∧ a % b = a.tmod b) ∧ -b < a.tmod b ∧ a.tmod b < b := by
 have h1 : b * a.tdiv b + a.tmod b = a := Int.mul_tdiv_add_tmod a b
 have h2 : a.tmod b < b := Int.tmod_lt_of_pos a hb
 have h3 : -b < a.tmod b := by
  have := Int.tmod_lt_of_pos (-a) hb
  rw [Int.neg_tmod] at this
  omega
 refine ⟨fun h => ?_, fun h => ?_, h3, h2⟩
 ·have := (Int.ediv_emod_unique hb (a := a) (q := a.tdiv b - 1) (r := a.tmod b + b)).2 ⟨by rw [Int.mul_sub]; omega, by omega, by omega⟩
  exact this
 ·exact (Int.ediv_emod_unique hb (a := a) (q := a.tdiv b) (r := a.tmod b)).2 ⟨by omega, by omega, by omega⟩
theorem DL {a b : Int} (ha : inI a) (hb : 0 < b) : inI (a / b) := by
 unfold inI at *
 have h1 := Int.emod_nonneg a (by omega : b ≠ 0)
 have h2 := Int.emod_lt_of_pos a hb
 have h3 := Int.mul_ediv_add_emod a b
 rcases Int.lt_or_le a 0 with h | h
 ·have h4 : a ≤ a / b := by
   rw [Int.le_ediv_iff_mul_le hb]
   have := Int.mul_le_mul_of_nonpos_left (a := a) (b := b) (c := 1) (by omega) (by omega)
   omega
  have h5 : a / b < 0 := Int.ediv_neg_of_neg_of_pos h hb
  omega
 ·have h4 : a / b ≤ a := Int.ediv_le_self b h
  have h5 : 0 ≤ a / b := Int.ediv_nonneg h (by omega)
  omega
theorem DM {a b : Int} (ha : inI a) (hb : 0 < b) : inI (a.tdiv b) := by
 unfold inI at *
 rcases Int.lt_or_le a 0 with h | h
 ·have h1 : a.tdiv b = -((-a) / b) := by
   rw [← Int.tdiv_eq_ediv_of_nonneg (by omega), Int.neg_tdiv]; omega
  have h4 : (-a) / b ≤ -a := Int.ediv_le_self b (by omega)
  have h5 : 0 ≤ (-a) / b := Int.ediv_nonneg (by omega) (by omega)
  omega
 ·rw [Int.tdiv_eq_ediv_of_nonneg h]
  have h4 : a / b ≤ a := Int.ediv_le_self b h
  have h5 : 0 ≤ a / b := Int.ediv_nonneg h (by omega)
  omega
theorem u64_in(n:Int):0<=IntKind.wrap .u64 n/\IntKind.wrap .u64 n<18446744073709551616:=by
 unfold IntKind.wrap
 simp only [IntKind.bits,IntKind.signed]
 simp
 omega
theorem G6{n:Int}(h:0<=n/\n<18446744073709551616):IntKind.wrap .u64 n=n:=by
 unfold IntKind.wrap
 simp only [IntKind.bits,IntKind.signed]
 simp
 omega
def mix (ae x z : Int) : Int := IntKind.wrap .u64 ((IntKind.wrap .u64 ((IntKind.wrap .u64 ((IntKind.wrap .u64 ae) * 11400714819323198485)) + (IntKind.wrap .u64 ((IntKind.wrap .u64 x) * 14029467366897019727)))) + (IntKind.wrap .u64 ((IntKind.wrap .u64 z) * 1609587929392839161)))
def hash (ae x z : Int) : Int :=
 dJ .u64 (IntKind.wrap .u64 ((dJ .u64 (mix ae x z) (mix ae x z / 536870912)) * 13787848793156543929)) (IntKind.wrap .u64 ((dJ .u64 (mix ae x z) (mix ae x z / 536870912)) * 13787848793156543929) / 4294967296)
theorem Io(ae x z:Int):0<=hash ae x z:=by
 unfold hash dJ
 exact(u64_in _).1
theorem Lc (n : Int) : (IntKind.wrap .u64 n).fdiv (2 ^ (min (29 : Int).toNat 64)) = IntKind.wrap .u64 n / 536870912 := Int.fdiv_eq_ediv_of_nonneg _ (by decide)
theorem Ld (n : Int) : (IntKind.wrap .u64 n).fdiv (2 ^ (min (32 : Int).toNat 64)) = IntKind.wrap .u64 n / 4294967296 := Int.fdiv_eq_ediv_of_nonneg _ (by decide)
theorem Le (n : Int) : IntKind.wrap .u64 (Int.tdiv (IntKind.wrap .u64 n) 536870912) = IntKind.wrap .u64 n / 536870912 := by
 have h := u64_in n
 rw [Int.tdiv_eq_ediv_of_nonneg h.1, G6 (by omega)]
theorem Lf (n : Int) : IntKind.wrap .u64 (Int.tdiv (IntKind.wrap .u64 n) 4294967296) = IntKind.wrap .u64 n / 4294967296 := by
 have h := u64_in n
 rw [Int.tdiv_eq_ediv_of_nonneg h.1, G6 (by omega)]
def aM(ae x z:Int):Int:=hash ae x z % 9
def ground (ae x z : Int) : Int :=
 6 + (aM ae (x / 8) (z / 8) * ((8 - x % 8) * (8 - z % 8)) + aM ae (x / 8 + 1) (z / 8) * (x % 8 * (8 - z % 8)) + aM ae (x / 8) (z / 8 + 1) * ((8 - x % 8) * (z % 8)) + aM ae (x / 8 + 1) (z / 8 + 1) * (x % 8 * (z % 8))) / 64
def yi(y g:Int):Int:=
 if y<0\/32<=y then 0 else if y=0\/y<g-3 then 1 else if y<g-1\/(y=g-1/\9<g)then 2 else if y=g-1 then 3 else if y<9 then 8 else 0
theorem iq {c u v : Int} (hc : 0 ≤ c ∧ c ≤ 8) (hu : 0 ≤ u ∧ u ≤ 8) (hv : 0 ≤ v ∧ v ≤ 8) : 0 ≤ u * v ∧ u * v ≤ 64 ∧ 0 ≤ c * (u * v) ∧ c * (u * v) ≤ 512 := by
 have h1 : 0 ≤ u * v := Int.mul_nonneg hu.1 hv.1
 have h2 : u * v ≤ 8 * 8 := Int.mul_le_mul hu.2 hv.2 hv.1 (by decide)
 have h3 : 0 ≤ c * (u * v) := Int.mul_nonneg hc.1 h1
 have h4 : c * (u * v) ≤ 8 * 64 := Int.mul_le_mul hc.2 h2 h1 (by decide)
 exact ⟨h1, h2, h3, h4⟩
theorem bh(s x z:Int):0<=aM s x z/\aM s x z<=8:=by
 unfold aM;omega
theorem lA (s x z : Int) : 6 ≤ ground s x z ∧ ground s x z ≤ 100 := by
 unfold ground
 have a := iq (bh s (x / 8) (z / 8)) (u := 8 - x % 8) (v := 8 - z % 8) (by omega) (by omega)
 have b := iq (bh s (x / 8 + 1) (z / 8)) (u := x % 8) (v := 8 - z % 8) (by omega) (by omega)
 have c := iq (bh s (x / 8) (z / 8 + 1)) (u := 8 - x % 8) (v := z % 8) (by omega) (by omega)
 have d := iq (bh s (x / 8 + 1) (z / 8 + 1)) (u := x % 8) (v := z % 8) (by omega) (by omega)
 omega
def idx(c:Ce):Int:=(c.2.1*16+c.2.2 % 16)*16+c.1 % 16
def ig(c:Ce):Prop:=0<=c.2.1/\c.2.1<32
def pos(c:Ce):Po:=(c.1 / 16,c.2.2 / 16)
def cellAt(p:Po)(i:Int):Ce:=(p.1*16+i % 16,i / 256,p.2*16+i / 16 % 16)
theorem mC{c:Ce}(h:ig c):0<=idx c/\idx c<8192:=by
 unfold idx;unfold ig at h;omega
theorem C3 {c : Ce} (h : ig c) : cellAt (pos c) (idx c) = c := by
 unfold cellAt idx pos
 unfold ig at h
 refine Prod.ext ?_ (Prod.ext ?_ ?_) <;> simp only <;> omega
def made (ae : Int) (p : Po) : List Int := (List.range 8192).map fun i : Nat => yi ((i : Int) / 256) (ground ae (p.1 * 16 + (i : Int) % 16) (p.2 * 16 + (i : Int) / 16 % 16))
theorem dO(ae:Int)(p:Po):(made ae p).length=8192:=by simp [made]
theorem E4 (y g : Int) : yi y g = 0 ∨ yi y g = 1 ∨ yi y g = 2 ∨ yi y g = 3 ∨ yi y g = 8 := by
 unfold yi
 split
 ·exact .inl rfl
 ·split
  ·exact .inr (.inl rfl)
  ·split
   ·exact .inr (.inr (.inl rfl))
   ·split
    ·exact .inr (.inr (.inr (.inl rfl)))
    ·split
     ·exact .inr (.inr (.inr (.inr rfl)))
     ·exact .inl rfl
end Go.bY
namespace Go.bY
open Go Go.Vc
end Go.bY
namespace Go.bY
open Go Go.Vc Go.aD
end Go.bY
namespace Go.bY
open Go Go.Vc Go.aD
end Go.bY
namespace Go.bY
open Go Go.Vc Go.aD
theorem Jq : ∀ (n : Nat) (l : List Rn), l.length = n → (∀ r ∈ l, 1 ≤ r.1) → (∀ i q r, l[i]? = some q → l[i + 1]? = some r → q.2 ≠ r.2) → Nm l
 | 0, l, hn, _, _ => by
   have : l = [] := List.eq_nil_of_length_eq_zero hn
   subst this; exact .nil
 | n + 1, l, hn, h1, h2 => by
   rcases lZ l with rfl | ⟨m, q, rfl⟩
   ·simp at hn
   ·have hm : m.length = n := by simpa using hn
    refine .snoc m q (Jq n m hm (fun r hr => h1 r (List.mem_append_left _ hr)) (fun i a b ha hb => ?_)) (h1 q (by simp)) (fun p hp => ?_)
    ·have hb' := (List.getElem?_eq_some_iff.1 hb).1
     exact h2 i a b (by rw [List.getElem?_append_left (by omega)]; exact ha) (by rw [List.getElem?_append_left (by omega)]; exact hb)
    ·have hne : m ≠ [] := by rintro rfl; simp at hp
     have hlen : 0 < m.length := List.length_pos_iff.2 hne
     rw [List.getLast?_eq_getElem?] at hp
     refine h2 (m.length - 1) p q ?_ ?_
     ·rw [List.getElem?_append_left (by omega)]; exact hp
     ·rw [show m.length - 1 + 1 = m.length by omega, List.getElem?_append_right (Nat.le_refl _), Nat.sub_self]; rfl
theorem Ca {may : Int → Bool} : ∀ {l : List Rn} {prev : Option Int} {left : Int}, pM may prev left l = true →
  (∀ r ∈ l, 1 ≤ r.1 ∧ may r.2 = true) ∧ (∀ i q r, l[i]? = some q → l[i + 1]? = some r → q.2 ≠ r.2) ∧ ∀ r, l.head? = some r → prev ≠ some r.2
 | [], _, _, _ => ⟨by simp, by simp, by simp⟩
 | r :: t, prev, left, h => by
   unfold pM at h
   split at h
   ·cases h
   ·rename_i hn
    obtain ⟨a1, a2, a3⟩ := Ca h
    have hm : may r.2 = true := by
     cases hq : may r.2 with
     | true => rfl
     | false => exact absurd (.inr (.inr (.inl hq))) hn
    have hp : prev ≠ some r.2 := fun e => hn (.inr (.inr (.inr e)))
    refine ⟨fun q hq => ?_, fun i q s hq hs => ?_, fun q hq => ?_⟩
    ·rcases List.mem_cons.1 hq with rfl | hq
     ·exact ⟨by omega, hm⟩
     ·exact a1 q hq
    ·cases i with
     | zero =>
       simp only [List.getElem?_cons_zero, Option.some.injEq] at hq
       subst hq
       simp only [List.getElem?_cons_succ] at hs
       have : t.head? = some s := by cases t <;> simp_all
       intro e
       exact a3 s this (by rw [e])
     | succ i => exact a2 i q s (by simpa using hq) (by simpa using hs)
    ·simp only [List.head?_cons, Option.some.injEq] at hq
     subst hq; exact hp
theorem xk {may : Int → Bool} {l : List Rn} {n : Int} (h : kQ may l n = true) : bk (aA l) = l ∧ (∀ b ∈ aA l, may b = true) ∧ ((aA l).length : Int) = n := by
 unfold kQ at h
 rw [Bool.and_eq_true] at h
 obtain ⟨a1, a2, _⟩ := Ca h.2
 refine ⟨(Jq l.length l rfl (fun r hr => (a1 r hr).1) a2).fix, fun b hb => ?_, ?_⟩
 ·unfold aA at hb
  obtain ⟨r, hr, hb⟩ := List.mem_flatMap.1 hb
  rw [(List.mem_replicate.1 hb).2]
  exact (a1 r hr).2
 ·rw [← bq fun r hr => by have := (a1 r hr).1; omega]
  exact BO h.2
end Go.bY
namespace Go.bY
open Go Go.Vc Go.aD
def pJ(p:Po):Prop:=(-524288<=p.1/\p.1<524288)/\-524288<=p.2/\p.2<524288
instance (p : Po) : Decidable (pJ p) := by unfold pJ; exact inferInstance
def mY (p : Po) : Int := if pJ p then (p.1 + 524288) * 1048576 + (p.2 + 524288) + 1 else 0
theorem Ik{p:Po}(h:pJ p):1<=mY p/\mY p<=1099511627776:=by
 unfold mY;rw [if_pos h];unfold pJ at h;omega
theorem Ab{p:Po}(h:¬pJ p):mY p=0:=by unfold mY;rw [if_neg h]
end Go.bY
namespace Go.bY
open Go Go.Vc Go.aD
def aU{α:Type}(q:α->Bool):List α->Int
 | []=> -1
 |x::t=>if q x then 0 else if aU q t<0 then -1 else aU q t+1
theorem g9 {α : Type} {q : α → Bool} : ∀ {l : List α}, (∀ y ∈ l, q y = false) → aU q l = -1
 | [], _ => rfl
 | x :: t, h => by
   have h1 := h x (.head _)
   have h2 := g9 (l := t) fun y hy => h y (.tail _ hy)
   unfold aU
   rw [if_neg (by rw [h1]; decide), if_pos (by omega)]
theorem pz {α : Type} {q : α → Bool} : ∀ {l : List α} {k : Nat} {x : α}, l[k]? = some x → q x = true → (∀ j, j < k → ∀ y, l[j]? = some y → q y = false) → aU q l = k
 | [], k, x, h, _, _ => by simp at h
 | y :: t, 0, x, h, hq, _ => by
   simp at h; subst h
   unfold aU
   rw [if_pos hq]; rfl
 | y :: t, k + 1, x, h, hq, hn => by
   have h1 := hn 0 (by omega) y rfl
   have h2 := pz (l := t) (k := k) (x := x) (by simpa using h) hq (fun j hj z hz => hn (j + 1) (by omega) z (by simpa using hz))
   unfold aU
   rw [if_neg (by rw [h1]; decide), if_neg (by omega), h2]
   omega
theorem bZ {α : Type} (q : α → Bool) : ∀ (l : List α), (aU q l = -1 ∧ ∀ y ∈ l, q y = false) ∨ ∃ k x, l[k]? = some x ∧ q x = true ∧ aU q l = (k : Nat) ∧ ∀ j, j < k → ∀ y, l[j]? = some y → q y = false
 | [] => .inl ⟨rfl, by simp⟩
 | x :: t => by
   cases hq : q x with
   | true => exact .inr ⟨0, x, rfl, hq, by unfold aU; rw [if_pos hq]; rfl, by omega⟩
   | false =>
     rcases bZ q t with ⟨h1, h2⟩ | ⟨k, y, h1, h2, h3, h4⟩
     ·refine .inl ⟨by unfold aU; rw [if_neg (by rw [hq]; decide), if_pos (by omega)], fun y hy => ?_⟩
      rcases List.mem_cons.1 hy with rfl | hy
      ·exact hq
      ·exact h2 y hy
     ·refine .inr ⟨k + 1, y, by simpa using h1, h2, by unfold aU; rw [if_neg (by rw [hq]; decide), if_neg (by omega), h3]; omega, fun j hj z hz => ?_⟩
      cases j with
      | zero => simp at hz; subst hz; exact hq
      | succ j => exact h4 j (by omega) z (by simpa using hz)
theorem jA {α β : Type} (f : α → β) (q : β → Bool) : ∀ l : List α, aU q (l.map f) = aU (fun a => q (f a)) l
 | [] => rfl
 | x :: t => by simp only [List.map_cons, aU, jA f q t]
end Go.bY
namespace Go.bY
open Go Go.Vc Go.aD
abbrev fq:=BitVec 16
abbrev lq(b:List Int):Prop:=∀c ∈ b,0<=c/\c<256
def cI(v:fq):Int:=(v.toNat:Nat)
def AF(c:fq):fq:=if c.msb then(c<<<1)^^^ 0x1021#16 else c<<<1
def yG (c : fq) : fq := AF (AF (AF (AF c)))
def AP (c : fq) : fq := yG (yG c)
def gU(x:Int):fq:=BitVec.ofInt 16 x
def K1 (c : fq) (x : Int) : fq := AP (c ^^^ (gU x <<< 8))
def pO(c:fq)(b:List Int):fq:=b.foldl K1 c
def kH(b:List Int):fq:=pO 0xFFFF#16 b
def zV (b : List Int) : List Int := [cI (kH b) / 256, cI (kH b) % 256]
theorem pg(v:fq):0<=cI v/\cI v<65536:=by unfold cI;have:=v.isLt;omega
theorem Dq {a b : fq} : cI a = cI b ↔ a = b := by
 unfold cI
 refine ⟨fun h => BitVec.eq_of_toNat_eq (by omega), fun h => by rw [h]⟩
theorem kE{x:Int}(h:0<=x/\x<65536):(gU x).toNat=x.toNat:=by
 unfold gU
 rw [BitVec.toNat_ofInt]
 simp only [show((2 ^ 16:Nat):Int)=65536 from rfl]
 rw [Int.emod_eq_of_lt h.1 h.2]
theorem AG {x : Int} (h : 0 ≤ x ∧ x < 65536) : cI (gU x) = x := by unfold cI; rw [kE h]; omega
theorem Ku (v : fq) : gU (cI v) = v := Dq.1 (AG (pg v))
theorem rz{a b:fq}(h:∀i:Nat,i<16->a.getLsbD i=b.getLsbD i):a=b:=BitVec.eq_of_getLsbD_eq h
theorem FL{i:Nat}(h:i<16):i=0\/i=1\/i=2\/i=3\/i=4\/i=5\/i=6\/i=7\/i=8\/i=9\/i=10\/i=11\/i=12\/i=13\/i=14\/i=15:=by omega
theorem Ja (a b : fq) (n : Nat) : (a ^^^ b) <<< n = (a <<< n) ^^^ (b <<< n) := by
 apply rz
 intro i hi
 simp only [BitVec.getLsbD_xor, BitVec.getLsbD_shiftLeft]
 cases decide (i < 16) <;> cases decide (i < n) <;> simp
theorem vH (a b : fq) : AF (a ^^^ b) = AF a ^^^ AF b := by
 unfold AF
 rw [BitVec.msb_xor, Ja]
 cases a.msb <;> cases b.msb <;> simp
 ·rw [BitVec.xor_assoc]
 ·rw [BitVec.xor_assoc, BitVec.xor_assoc]
  congr 1
  rw [BitVec.xor_comm]
 ·generalize a <<< 1 = x
  generalize b <<< 1 = y
  apply rz
  intro i _
  simp only [BitVec.getLsbD_xor]
  cases x.getLsbD i <;> cases y.getLsbD i <;> cases (4129#16).getLsbD i <;> rfl
theorem vI (a b : fq) : yG (a ^^^ b) = yG a ^^^ yG b := by unfold yG; rw [vH, vH, vH, vH]
theorem Jb (a b : fq) : AP (a ^^^ b) = AP a ^^^ AP b := by unfold AP; rw [vI, vI]
theorem AO(c:fq):c.msb=true ↔ 32768<=c.toNat:=by
 rw [BitVec.msb_eq_decide];simp
theorem sR{c:fq}(h:c.toNat<32768):AF c=c<<<1/\(c<<<1).toNat=2*c.toNat:=by
 constructor
 ·unfold AF
  rw [if_neg]
  rw [AO];omega
 ·rw [BitVec.toNat_shiftLeft,Nat.shiftLeft_eq]
  omega
theorem ic {c : fq} (h : AF c = 0#16) : c = 0#16 := by
 unfold AF at h
 split at h
 ·have := congrArg (fun v : fq => v.getLsbD 0) h
  simp at this
 ·rename_i hm
  have hm : c.toNat < 32768 := by rw [AO] at hm; omega
  have h2 := (sR hm).2
  rw [h] at h2
  exact BitVec.eq_of_toNat_eq (by simp at h2 ⊢; omega)
theorem Cs {c : fq} (h : AP c = 0#16) : c = 0#16 := by
 unfold AP yG at h
 exact ic (ic (ic (ic (ic (ic (ic (ic h)))))))
theorem sS {a b : fq} : a ^^^ b = 0#16 ↔ a = b := by
 constructor
 ·intro h
  have := congrArg (fun v => v ^^^ b) h
  simpa [BitVec.xor_assoc] using this
 ·rintro rfl; exact BitVec.xor_self
theorem Jc {a b : fq} (h : AP a = AP b) : a = b := by
 rw [← sS] at h ⊢
 rw [← Jb] at h
 exact Cs h
theorem sT(c:fq)(m n:Nat):(c<<<m)<<<n=c<<<(m+n):=(BitVec.shiftLeft_add c m n).symm
theorem vJ {c : fq} (h : c.toNat < 4096) : yG c = c <<< 4 := by
 unfold yG
 have h1 := sR (c := c) (by omega)
 rw [h1.1]
 have h2 := sR (c := c <<< 1) (by omega)
 rw [h2.1]
 have h3 := sR (c := c <<< 1 <<< 1) (by omega)
 rw [h3.1]
 have h4 := sR (c := c <<< 1 <<< 1 <<< 1) (by omega)
 rw [h4.1, sT, sT, sT]
theorem Ct (v y : fq) (hy : y.toNat < 16) : (v <<< 4) ^^^ yG (((v >>> 12) ^^^ y) <<< 12) = yG (v ^^^ (y <<< 12)) := by
 have e : v ^^^ (y <<< 12) = (((v >>> 12) ^^^ y) <<< 12) ^^^ (v &&& 0xFFF#16) := by
  apply rz
  intro i hi
  simp only [BitVec.getLsbD_xor, BitVec.getLsbD_shiftLeft, BitVec.getLsbD_ushiftRight, BitVec.getLsbD_and]
  rcases FL hi with rfl | rfl | rfl | rfl | rfl | rfl | rfl | rfl | rfl | rfl | rfl | rfl | rfl | rfl | rfl | rfl <;> simp
 have hl : (v &&& 0xFFF#16).toNat < 4096 := by
  rw [BitVec.toNat_and]
  exact Nat.lt_of_le_of_lt Nat.and_le_right (by decide)
 have e2 : (v &&& 0xFFF#16) <<< 4 = v <<< 4 := by
  apply rz
  intro i hi
  simp only [BitVec.getLsbD_shiftLeft, BitVec.getLsbD_and]
  rcases FL hi with rfl | rfl | rfl | rfl | rfl | rfl | rfl | rfl | rfl | rfl | rfl | rfl | rfl | rfl | rfl | rfl <;> simp
 rw [e, vI, vJ hl, e2, BitVec.xor_comm]
theorem FM (v x : fq) (hx : x.toNat < 256) : yG (yG (v ^^^ ((x >>> 4) <<< 12)) ^^^ ((x &&& 15#16) <<< 12)) = AP (v ^^^ (x <<< 8)) := by
 have e : v ^^^ (x <<< 8) = (v ^^^ ((x >>> 4) <<< 12)) ^^^ ((x &&& 15#16) <<< 8) := by
  apply rz
  intro i hi
  simp only [BitVec.getLsbD_xor, BitVec.getLsbD_shiftLeft, BitVec.getLsbD_ushiftRight, BitVec.getLsbD_and]
  rcases FL hi with rfl | rfl | rfl | rfl | rfl | rfl | rfl | rfl | rfl | rfl | rfl | rfl | rfl | rfl | rfl | rfl <;> simp
 have hl : (x &&& 15#16).toNat < 16 := by
  rw [BitVec.toNat_and]
  exact Nat.lt_of_le_of_lt Nat.and_le_right (by decide)
 have hl2 : ((x &&& 15#16) <<< 8).toNat < 4096 := by
  rw [BitVec.toNat_shiftLeft, Nat.shiftLeft_eq]; omega
 unfold AP
 rw [e, vI (v ^^^ _), vJ hl2, sT]
theorem Eo {c : fq} (h : c.toNat < 256) : AP c = c <<< 8 := by
 unfold AP
 rw [vJ (c := c) (by omega), vJ (c := c <<< 4) (by rw [BitVec.toNat_shiftLeft, Nat.shiftLeft_eq]; omega), sT]
theorem ph (c : fq) (a b : List Int) : pO c (a ++ b) = pO (pO c a) b := List.foldl_append ..
theorem I9 (c : fq) {h l : Int} (hh : 0 ≤ h ∧ h < 256) (hl : 0 ≤ l ∧ l < 256) : pO c [h, l] = 0#16 ↔ cI c = h * 256 + l := by
 show AP (AP (c ^^^ (gU h <<< 8)) ^^^ (gU l <<< 8)) = 0#16 ↔ _
 have n1 : (gU l).toNat < 256 := by rw [kE (by omega)]; omega
 have n2 : (gU h).toNat < 256 := by rw [kE (by omega)]; omega
 have z : AP 0#16 = 0#16 := by decide
 have e1 : AP (AP (c ^^^ (gU h <<< 8)) ^^^ (gU l <<< 8)) = 0#16 ↔ c = (gU h <<< 8) ^^^ gU l := by
  constructor
  ·intro q
   have q1 := Cs q
   rw [sS, ← Eo n1] at q1
   have q2 := Jc q1
   rw [← q2, BitVec.xor_comm, BitVec.xor_assoc, BitVec.xor_self, BitVec.xor_zero]
  ·rintro rfl
   rw [show (gU h <<< 8 ^^^ gU l) ^^^ gU h <<< 8 = gU l by rw [BitVec.xor_comm, ← BitVec.xor_assoc, BitVec.xor_self, BitVec.zero_xor], Eo n1, BitVec.xor_self, z]
 rw [e1]
 have e2 : ((gU h <<< 8) ^^^ gU l).toNat = h.toNat * 256 + l.toNat := by
  have : (gU h <<< 8) ^^^ gU l = (gU h <<< 8) ||| gU l := by
   apply rz
   intro i hi
   have hb : ∀ j, 8 ≤ j → (gU l).getLsbD j = false := fun j hj => Nat.testBit_lt_two_pow (Nat.lt_of_lt_of_le n1 (Nat.pow_le_pow_right (n := 2) (by decide) hj))
   simp only [BitVec.getLsbD_xor, BitVec.getLsbD_or, BitVec.getLsbD_shiftLeft]
   by_cases h8 : i < 8
   ·simp [h8]
   ·rw [hb i (by omega)]; simp
  rw [this, BitVec.toNat_or, BitVec.toNat_shiftLeft, kE (x := h) (by omega), kE (x := l) (by omega), Nat.shiftLeft_eq]
  rw [Nat.mod_eq_of_lt (by omega)]
  have := Nat.two_pow_add_eq_or_of_lt (i := 8) (b := l.toNat) (by omega) h.toNat
  rw [Nat.mul_comm h.toNat, ← this]
 constructor
 ·intro q
  rw [q]; unfold cI; rw [e2]; omega
 ·intro q
  apply BitVec.eq_of_toNat_eq
  rw [e2]
  unfold cI at q; omega
theorem wrap_u16(x:Int):IntKind.wrap .u16 x=x % 65536:=by
 simp [IntKind.wrap,IntKind.bits,IntKind.signed]
theorem lO (n : Nat) (hn : 16 ≤ n) (v : fq) : (BitVec.ofInt n (cI v)).toNat = v.toNat := by
 unfold cI
 rw [BitVec.toNat_ofInt]
 have h1 := v.isLt
 have h2 : (2 : Nat) ^ 16 ≤ 2 ^ n := Nat.pow_le_pow_right (by decide) hn
 generalize (2 : Nat) ^ n = m at *
 rw [Int.emod_eq_of_lt (by omega) (by omega)]
 omega
theorem xR (a b : fq) : dJ .u16 (cI a) (cI b) = cI (a ^^^ b) := by
 show IntKind.wrap .u16 ((BitVec.ofInt 16 (cI a) ^^^ BitVec.ofInt 16 (cI b)).toNat : Nat) = _
 rw [BitVec.toNat_xor, lO 16 (by decide), lO 16 (by decide), ← BitVec.toNat_xor, wrap_u16]
 show cI _ % 65536 = cI _
 have := pg (a ^^^ b)
 omega
theorem HV (a b : fq) : dJ .i64 (cI a) (cI b) = cI (a ^^^ b) := by
 show IntKind.wrap .i64 ((BitVec.ofInt 64 (cI a) ^^^ BitVec.ofInt 64 (cI b)).toNat : Nat) = _
 rw [BitVec.toNat_xor, lO 64 (by decide), lO 64 (by decide), ← BitVec.toNat_xor]
 have := pg (a ^^^ b)
 exact aj (n := cI (a ^^^ b)) (by unfold inI; omega)
theorem Dz (v : fq) (n : Nat) : cI (v <<< n) = cI v * 2 ^ n % 65536 := by
 unfold cI
 rw [BitVec.toNat_shiftLeft, Nat.shiftLeft_eq, Int.natCast_emod, Int.natCast_mul, Int.natCast_pow]
 rfl
theorem Dr (v : fq) (n : Nat) : cI (v >>> n) = cI v / 2 ^ n := by
 unfold cI
 rw [BitVec.toNat_ushiftRight, Nat.shiftRight_eq_div_pow, Int.natCast_ediv, Int.natCast_pow]
 rfl
theorem HW(v:fq):v.msb=true ↔ 32768<=cI v:=by rw [AO];unfold cI;omega
theorem Jd (v : fq) : (if 65536 ≤ cI v * 2 then dJ .i64 (cI v * 2 - 65536) 4129 else cI v * 2) = cI (AF v) := by
 have hb := pg v
 have h1 : cI (v <<< 1) = cI v * 2 % 65536 := Dz v 1
 unfold AF
 by_cases h : v.msb = true
 ·have hm := (HW v).1 h
  rw [if_pos h, if_pos (by omega), ← HV, h1]
  have e1 : cI v * 2 % 65536 = cI v * 2 - 65536 := by omega
  rw [e1]
  rfl
 ·have hm := mt (HW v).2 h
  rw [if_neg h, if_neg (by omega), h1]
  omega
theorem Ej (v : fq) : cI (v &&& 0x8000#16) = 0 ↔ v.msb = false := by
 have e15 : v.msb = v.getLsbD 15 := rfl
 constructor
 ·intro h
  have h0 : v &&& 0x8000#16 = 0#16 := Dq.1 (by rw [h]; rfl)
  have := congrArg (fun u : fq => u.getLsbD 15) h0
  simp only [BitVec.getLsbD_and] at this
  rw [e15]
  simpa using this
 ·intro h
  have h0 : v &&& 0x8000#16 = 0#16 := by
   apply rz
   intro i hi
   rw [e15] at h
   simp only [BitVec.getLsbD_and]
   rcases FL hi with rfl | rfl | rfl | rfl | rfl | rfl | rfl | rfl | rfl | rfl | rfl | rfl | rfl | rfl | rfl | rfl <;> first | (simp; done) | simpa using h
  rw [h0]; rfl
theorem Km (a b : fq) : yj .u16 (cI a) (cI b) = cI (a &&& b) := by
 show IntKind.wrap .u16 ((BitVec.ofInt 16 (cI a) &&& BitVec.ofInt 16 (cI b)).toNat : Nat) = _
 rw [BitVec.toNat_and, lO 16 (by decide), lO 16 (by decide), ← BitVec.toNat_and, wrap_u16]
 show cI _ % 65536 = cI _
 have := pg (a &&& b)
 omega
theorem Ei (v : fq) (n : Nat) : IntKind.wrap .u16 (cI v * 2 ^ n) = cI (v <<< n) := by rw [wrap_u16, Dz]
theorem HB (v : fq) (n : Nat) : (cI v).fdiv (2 ^ n) = cI (v >>> n) := by
 rw [Dr, Int.fdiv_eq_ediv_of_nonneg]
 exact Int.le_of_lt (Int.pow_pos (by decide))
theorem Lr {x : Int} (h : 0 ≤ x ∧ x < 256) : IntKind.wrap .u16 (x.fdiv (2 ^ 4)) = cI (gU x >>> 4) := by
 rw [Dr, AG (by omega), Int.fdiv_eq_ediv_of_nonneg _ (by decide), wrap_u16]
 simp only [show (2 : Int) ^ 4 = 16 from rfl]
 omega
theorem Ls {x : Int} (h : 0 ≤ x ∧ x < 256) : IntKind.wrap .u16 (yj .u8 x 15) = cI (gU x &&& 15#16) := by
 have e : yj .u8 x 15 = cI (gU x &&& 15#16) := by
  show IntKind.wrap .u8 ((BitVec.ofInt 8 x &&& BitVec.ofInt 8 15).toNat : Nat) = _
  have e8 : (BitVec.ofInt 8 x).toNat = (gU x).toNat := by
   rw [kE (by omega), BitVec.toNat_ofInt]
   simp only [show ((2 ^ 8 : Nat) : Int) = 256 from rfl]
   rw [Int.emod_eq_of_lt h.1 h.2]
  rw [BitVec.toNat_and, e8]
  unfold cI
  rw [BitVec.toNat_and]
  have : (gU x).toNat &&& (15#16).toNat < 16 := Nat.lt_of_le_of_lt Nat.and_le_right (by decide)
  show IntKind.wrap .u8 (((gU x).toNat &&& (15#16).toNat : Nat) : Int) = _
  simp only [IntKind.wrap, IntKind.bits, IntKind.signed, Bool.false_and, Bool.false_eq_true, if_false, show (2 : Int) ^ 8 = 256 from rfl]
  omega
 rw [e, wrap_u16]
 have := pg (gU x &&& 15#16)
 omega
theorem HC {a b : fq} (ha : a.toNat < 16) (hb : b.toNat < 16) : (a ^^^ b).toNat < 16 := by
 rw [BitVec.toNat_xor]
 exact Nat.xor_lt_two_pow (n := 4) ha hb
theorem HD(v:fq):(v>>>12).toNat<16:=by
 rw [BitVec.toNat_ushiftRight,Nat.shiftRight_eq_div_pow]
 have:=v.isLt
 omega
theorem Jr {x : Int} (h : 0 ≤ x ∧ x < 256) : (gU x >>> 4).toNat < 16 := by
 rw [BitVec.toNat_ushiftRight, Nat.shiftRight_eq_div_pow, kE (by omega)]
 omega
theorem Jt (x : fq) : (x &&& 15#16).toNat < 16 := by
 rw [BitVec.toNat_and]
 exact Nat.lt_of_le_of_lt Nat.and_le_right (by decide)
def tv (i : Nat) : Value := .int .u16 (cI (yG (gU i <<< 12)))
def tS:List Value:=[tv 0,tv 1,tv 2,tv 3,tv 4,tv 5,tv 6,tv 7,tv 8,tv 9,tv 10,tv 11,tv 12,tv 13,tv 14,tv 15]
def tT (k : Nat) : List Value := tS.take k ++ List.replicate (16 - k) (.int .u16 0)
theorem Kn {k : Nat} (hk : k < 16) : (tT k).set k (tv k) = tT (k + 1) := by
 rcases FL hk with rfl | rfl | rfl | rfl | rfl | rfl | rfl | rfl | rfl | rfl | rfl | rfl | rfl | rfl | rfl | rfl <;> rfl
theorem Js {u : fq} (hu : u.toNat < 16) : tS[(cI u).toNat]? = some (.int .u16 (cI (yG (u <<< 12)))) := by
 have e : ∀ k : Nat, k < 16 → tS[k]? = some (tv k) := fun k hk => by
  rcases FL hk with rfl | rfl | rfl | rfl | rfl | rfl | rfl | rfl | rfl | rfl | rfl | rfl | rfl | rfl | rfl | rfl <;> rfl
 have h1 : (cI u).toNat = u.toNat := rfl
 rw [h1, e _ hu]
 unfold tv
 have : gU (u.toNat : Int) = u := Ku u
 rw [this]
theorem Fv (v : fq) {x : Int} (h : 0 ≤ x ∧ x < 256) :
  cI ((((v <<< 4) ^^^ yG (((v >>> 12) ^^^ (gU x >>> 4)) <<< 12)) <<< 4) ^^^ yG (((((v <<< 4) ^^^ yG (((v >>> 12) ^^^ (gU x >>> 4)) <<< 12)) >>> 12) ^^^ (gU x &&& 15#16)) <<< 12)) = cI (K1 v x) := by
 rw [Ct v _ (Jr h), Ct _ _ (Jt _), FM v _ (by rw [kE (by omega)]; omega)]
 rfl
end Go.bY
namespace Go.bY
open Go Go.Vc Go.aD
def be:Nat->Int->List Int
 |0,_=> []
 |m+1,n=>n / 256 ^ m % 256::be m n
def bH (b : List Int) : Int := b.foldl (fun n c => n * 256 + c) 0
def Cf(v:Int)(body:List Int):List Int:=be 4 v++be 3 body.length++body
def uM(b:List Int):List Int:=b++zV b
def vC (v : Int) (body : List Int) : List Int × Int := if v < 1 ∨ v > 1073741824 ∨ (body.length : Int) > 65536 then ([], 1) else (uM (Cf v body), 0)
def ie (b : List Int) : List Int × Int := if b.length < 2 then ([], 3) else if kH b = 0#16 then (b.take (b.length - 2), 0) else ([], 4)
def eu (b : List Int) : Int × List Int × Int :=
 if (ie b).2 ≠ 0 then (0, [], (ie b).2)
 else if (ie b).1.length < 7 then (0, [], 3)
 else if bH ((ie b).1.take 4) < 1 ∨ bH ((ie b).1.take 4) > 1073741824 ∨ bH (((ie b).1.drop 4).take 3) > 65536 ∨ bH (((ie b).1.drop 4).take 3) ≠ (((ie b).1.drop 7).length : Int) then (0, [], 2)
 else (bH ((ie b).1.take 4), (ie b).1.drop 7, 0)
theorem xS:∀(m:Nat)(n:Int),(be m n).length=m
 |0,_=>rfl
 |m+1,n=>by simp [be,xS m n]
theorem HP : ∀ (m : Nat) (n : Int), lq (be m n)
 | 0, _ => fun c hc => by cases hc
 | m + 1, n => fun c hc => by
   rcases List.mem_cons.1 hc with rfl | hc
   ·omega
   ·exact HP m n c hc
theorem xP (b : List Int) (c : Int) : bH (b ++ [c]) = bH b * 256 + c := by unfold bH; rw [List.foldl_append]; rfl
theorem I5 (b : List Int) : lq (zV b) := fun c hc => by
 have := pg (kH b)
 simp only [zV, List.mem_cons, List.not_mem_nil, or_false] at hc
 rcases hc with rfl | rfl <;> omega
theorem HQ(b:List Int):(zV b).length=2:=rfl
theorem lq.app {a b : List Int} (ha : lq a) (hb : lq b) : lq (a ++ b) := fun c hc => (List.mem_append.1 hc).elim (ha c) (hb c)
theorem Ek {v : Int} {body : List Int} (h : lq body) : lq (Cf v body) := ((HP 4 v).app (HP 3 _)).app h
theorem HR {b : List Int} (h : lq b) : lq (uM b) := h.app (I5 b)
theorem Kt {v : Int} {body : List Int} (h : lq body) : lq (vC v body).1 := by
 unfold vC
 split
 ·intro c hc; cases hc
 ·exact HR (Ek h)
theorem Ch(v:Int)(body:List Int):(Cf v body).length=7+body.length:=by unfold Cf;simp [xS];omega
theorem yT(b:List Int):(uM b).length=b.length+2:=by unfold uM;rw [List.length_append,HQ]
theorem Gg{b:List Int}:(eu b).2.2=0->1<=(eu b).1/\(eu b).1<=1073741824:=by
 intro h
 unfold eu at h ⊢
 split at h
 ·rename_i q;exact absurd h q
 ·rename_i q
  rw [if_neg q]
  split at h
  ·cases h
  ·rename_i q2
   rw [if_neg q2]
   split at h
   ·cases h
   ·rename_i q3
    rw [if_neg q3]
    simp only [not_or]at q3
    simp only;omega
theorem KK {b : List Int} : (eu b).2.2 ≠ 0 → (eu b).1 = 0 ∧ (eu b).2.1 = [] := by
 intro h
 unfold eu at h ⊢
 split
 ·exact ⟨rfl, rfl⟩
 ·split
  ·exact ⟨rfl, rfl⟩
  ·split
   ·exact ⟨rfl, rfl⟩
   ·rename_i q q2 q3
    rw [if_neg q, if_neg q2, if_neg q3] at h
    exact absurd rfl h
theorem Kl {b : List Int} {h l : Int} {a : List Int} (e : b = a ++ [h, l]) (hh : 0 ≤ h ∧ h < 256) (hl : 0 ≤ l ∧ l < 256) : ie b = if h * 256 + l = cI (kH a) then (a, 0) else ([], 4) := by
 have hn : b.length = a.length + 2 := by rw [e]; simp
 have hc : kH b = 0#16 ↔ h * 256 + l = cI (kH a) := by
  rw [e]; unfold kH
  rw [ph, I9 _ hh hl]
  exact ⟨fun h => h.symm, fun h => h.symm⟩
 unfold ie
 rw [if_neg (by omega)]
 by_cases q : kH b = 0#16
 ·rw [if_pos q, if_pos (hc.1 q), hn, e]; simp
 ·rw [if_neg q, if_neg fun h => q (hc.2 h)]
theorem El {b : List Int} (hb : lq b) : ∀ k : Nat, 0 ≤ bH (b.take k) ∧ bH (b.take k) < 256 ^ k
 | 0 => by rw [List.take_zero]; exact ⟨Int.le_refl 0, by decide⟩
 | k + 1 => by
   obtain ⟨h1, h2⟩ := El hb k
   rw [List.take_add_one]
   cases hx : b[k]? with
   | none =>
     rw [Int.pow_succ]
     simp only [Option.toList_none, List.append_nil]
     generalize (256 : Int) ^ k = p at *
     omega
   | some x =>
     have := hb x (List.mem_of_getElem? hx)
     rw [Int.pow_succ]
     simp only [Option.toList_some]
     rw [xP]
     generalize (256 : Int) ^ k = p at *
     omega
theorem xO {b : List Int} (hb : lq b) {k : Nat} (hk : k ≤ 4) : 0 ≤ bH (b.take k) ∧ bH (b.take k) < 4294967296 := by
 obtain ⟨h1, h2⟩ := El hb k
 have h3 : (256 : Int) ^ k ≤ 4294967296 := by
  rcases k with _ | _ | _ | _ | _ | k
  ·decide
  ·decide
  ·decide
  ·decide
  ·decide
  ·omega
 exact ⟨h1, Int.lt_of_lt_of_le h2 h3⟩
theorem HF {n c : Int} (hn : 0 ≤ n ∧ n < 281474976710656) (hc : 0 ≤ c ∧ c < 256) : AR .i64 (n * 256) c = n * 256 + c := by
 show IntKind.wrap .i64 ((BitVec.ofInt 64 (n * 256) ||| BitVec.ofInt 64 c).toNat : Nat) = _
 have e1 : (BitVec.ofInt 64 (n * 256)).toNat = 2 ^ 8 * n.toNat := by
  rw [BitVec.toNat_ofInt]
  simp only [show ((2 ^ 64 : Nat) : Int) = 18446744073709551616 from rfl, show (2 : Nat) ^ 8 = 256 from rfl]
  omega
 have e2 : (BitVec.ofInt 64 c).toNat = c.toNat := by
  rw [BitVec.toNat_ofInt]
  simp only [show ((2 ^ 64 : Nat) : Int) = 18446744073709551616 from rfl]
  omega
 rw [BitVec.toNat_or, e1, e2, ← Nat.two_pow_add_eq_or_of_lt (i := 8) (b := c.toNat) (by omega) n.toNat]
 simp only [show (2 : Nat) ^ 8 = 256 from rfl]
 have : ((256 * n.toNat + c.toNat : Nat) : Int) = n * 256 + c := by omega
 rw [this]
 exact wI
abbrev jo:=Int × List Int
structure Dk where
 room:Int
 cS:Int
 wait:Int
 safe:List jo
 l:List jo
def Fe : Bool → List jo → jo → List jo
 | done, [], w => if done then [] else [w]
 | done, x :: t, w => (if done = false ∧ x.1 ≥ w.1 then [w] else []) ++ (if x.1 ≠ w.1 then [x] else []) ++ Fe (done || decide (x.1 ≥ w.1)) t w
def lay(l:List jo)(w:jo):List jo:=Fe false l w
def lF(d:Dk):List jo:=d.l.foldl lay d.safe
def jM(l:List jo):Nat:=(l.map fun x=>x.2.length).sum
def jh (l : List jo) (k : Int) : Option (List Int) := (l.find? fun x => x.1 == k).map (·.2)
def eQ(d:Dk):Dk × Bool:=if 0<d.wait then({d with wait:=0},false)else if 0<d.cS then({d with cS:=d.cS-1},true)else(d,false)
def iZ (d : Dk) (k : Int) (b : List Int) : Dk × Int :=
 if (eQ d).2 = true then ((eQ d).1, 9) else if (jM (lay (lF d) (k, b)) : Int) > d.room then ((eQ d).1, 8) else ({ (eQ d).1 with l := d.l ++ [(k, b)] }, 0)
def getD (d : Dk) (k : Int) : List Int := (jh (lF d) k).getD []
def mW(d:Dk):Dk × Int:=if(eQ d).2=true then((eQ d).1,9)else({(eQ d).1 with safe:=lF d,l:=[]},0)
theorem zC : ∀ (l : List jo) (w : jo), Fe true l w = l.filter fun x => decide (x.1 ≠ w.1)
 | [], _ => rfl
 | x :: t, w => by
   unfold Fe
   rw [if_neg (by simp), Bool.true_or, zC t w, List.filter_cons]
   by_cases h : x.1 = w.1 <;> simp [h]
theorem nG : ∀ (l : List jo) (w : jo), (lay l w).Perm (w :: l.filter fun x => decide (x.1 ≠ w.1))
 | [], _ => .refl _
 | x :: t, w => by
   unfold lay Fe
   rw [Bool.false_or]
   by_cases h : x.1 ≥ w.1
   ·rw [if_pos ⟨rfl, h⟩, decide_eq_true h, zC, List.filter_cons]
    by_cases h2 : x.1 = w.1
    ·rw [if_neg (by simp [h2]), if_neg (by simp [h2])]; exact .refl _
    ·rw [if_pos h2, if_pos (by simp [h2])]; exact .refl _
   ·rw [if_neg fun q => h q.2, decide_eq_false h, if_pos (by omega), List.filter_cons, if_pos (by simp; omega)]
    have ih := nG t w
    unfold lay at ih
    exact (List.Perm.cons x ih).trans (List.Perm.swap _ _ _)
def dL (l : List jo) : List Int := l.map (·.1)
theorem AN {l : List jo} (p : jo → Bool) (h : (dL l).Nodup) : (dL (l.filter p)).Nodup := h.sublist ((List.filter_sublist).map _)
theorem FE {l : List jo} {w : jo} (h : (dL l).Nodup) : (dL (lay l w)).Nodup := by
 refine ((nG l w).map (·.1)).nodup_iff.2 ?_
 rw [List.map_cons]
 refine List.nodup_cons.2 ⟨fun hm => ?_, AN _ h⟩
 obtain ⟨x, hx, e⟩ := List.mem_map.1 hm
 have := (List.mem_filter.1 hx).2
 simp at this
 exact this e
theorem oP : ∀ (t : List jo) {l : List jo}, (dL l).Nodup → (dL (t.foldl lay l)).Nodup
 | [], _, h => h
 | w :: t, _, h => oP t (FE h)
theorem ze{a b:List jo}(h:a.Perm b):jM a=jM b:=(h.map fun x:jo=>x.2.length).sum_nat
theorem lG (x : jo) (t : List jo) : jM (x :: t) = x.2.length + jM t := rfl
theorem uj {l : List jo} (h : (dL l).Nodup) {k : Int} {b : List Int} : jh l k = some b ↔ (k, b) ∈ l := by
 unfold jh
 induction l with
 | nil => simp
 | cons x t ih =>
   have hn := List.nodup_cons.1 h
   rw [List.find?_cons]
   by_cases e : x.1 = k
   ·rw [beq_iff_eq.2 e]
    simp only [Option.map_some, Option.some.injEq, List.mem_cons]
    constructor
    ·rintro rfl; exact .inl (by rw [← e])
    ·rintro (q | q)
     ·rw [← q]
     ·exact absurd (List.mem_map.2 ⟨_, q, e.symm⟩) hn.1
   ·rw [show (x.1 == k) = false by simpa using e, ih hn.2]
    simp only [List.mem_cons]
    constructor
    ·exact .inr
    ·rintro (q | q)
     ·exact absurd (by rw [← q]) e
     ·exact q
theorem ui {l : List jo} {k : Int} : jh l k = none ↔ ∀ x ∈ l, x.1 ≠ k := by
 unfold jh
 rw [Option.map_eq_none_iff, List.find?_eq_none]
 simp
theorem ES {a b : List jo} (h : a.Perm b) (ha : (dL a).Nodup) (k : Int) : jh a k = jh b k := by
 have hb : (dL b).Nodup := (h.map fun x : jo => x.1).nodup_iff.1 ha
 cases q : jh b k with
 | some x => exact (uj ha).2 (h.mem_iff.2 ((uj hb).1 q))
 | none => exact ui.2 fun x hx => ui.1 q x (h.mem_iff.1 hx)
theorem u5 {l : List jo} (h : (dL l).Nodup) (k : Int) : jM (l.filter fun x => decide (x.1 ≠ k)) + ((jh l k).getD []).length = jM l := by
 induction l with
 | nil => rfl
 | cons x t ih =>
   have hn := List.nodup_cons.1 h
   rw [List.filter_cons]
   by_cases e : x.1 = k
   ·rw [if_neg (by simp [e])]
    have hg : jh (x :: t) k = some x.2 := by unfold jh; rw [List.find?_cons, beq_iff_eq.2 e]; rfl
    have ht : t.filter (fun x => decide (x.1 ≠ k)) = t := List.filter_eq_self.2 fun y hy => by
     simp only [ne_eq, decide_not, Bool.not_eq_true', decide_eq_false_iff_not]
     intro q
     exact hn.1 (List.mem_map.2 ⟨y, hy, q.trans e.symm⟩)
    rw [hg, ht, lG, Option.getD_some]; omega
   ·rw [if_pos (by simp [e])]
    have hg : jh (x :: t) k = jh t k := by unfold jh; rw [List.find?_cons, show (x.1 == k) = false by simpa using e]
    have := ih hn.2
    rw [hg, lG, lG]; omega
theorem G5 {l : List jo} (h : (dL l).Nodup) (w : jo) : jM (lay l w) + ((jh l w.1).getD []).length = jM l + w.2.length := by
 have := u5 h w.1
 rw [ze (nG l w), lG]; omega
structure kZ (d : Dk) : Prop where
 nd : (dL d.safe).Nodup
 len : ∀ k, (jM ((d.l.take k).foldl lay d.safe) : Int) ≤ d.room
 w : 0 ≤ d.wait ∧ d.wait ≤ 1
 f : 0 ≤ d.cS ∧ d.cS ≤ 9223372036854775807
 r : 0 ≤ d.room ∧ d.room ≤ 1048576
theorem kZ.now {d : Dk} (h : kZ d) : (dL (lF d)).Nodup := oP _ h.nd
theorem kZ.IF {d : Dk} (h : kZ d) : (jM (lF d) : Int) ≤ d.room := by
 have := h.len d.l.length
 rwa [List.take_length] at this
theorem gj(d:Dk):(eQ d).1.safe=d.safe/\(eQ d).1.l=d.l/\(eQ d).1.room=d.room:=by
 unfold eQ
 split
 ·exact⟨rfl,rfl,rfl⟩
 ·split<;>exact⟨rfl,rfl,rfl⟩
theorem kZ.ask {d : Dk} (h : kZ d) : kZ (eQ d).1 := by
 obtain ⟨e1, e2, e3⟩ := gj d
 refine ⟨by rw [e1]; exact h.nd, by rw [e1, e2, e3]; exact h.len, ?_, ?_, by rw [e3]; exact h.r⟩
 ·unfold eQ
  have := h.w
  split
  ·simp
  ·split <;> exact this
 ·unfold eQ
  have := h.f
  split
  ·exact this
  ·split
   ·simp only; omega
   ·exact this
theorem kZ.put {d : Dk} (h : kZ d) (k : Int) (b : List Int) : kZ (iZ d k b).1 := by
 have ha := h.ask
 obtain ⟨e1, e2, e3⟩ := gj d
 unfold iZ
 split
 ·exact ha
 ·split
  ·exact ha
  ·rename_i hr
   refine ⟨by rw [e1]; exact h.nd, fun n => ?_, ha.w, ha.f, ha.r⟩
   rw [e1, e3]
   simp only
   by_cases hn : n ≤ d.l.length
   ·rw [List.take_append_of_le_length hn]; exact h.len n
   ·rw [List.take_of_length_le (by simp; omega), List.foldl_append]
    show (jM (lay (lF d) (k, b)) : Int) ≤ _
    omega
theorem kZ.sync {d : Dk} (h : kZ d) : kZ (mW d).1 := by
 have ha := h.ask
 obtain ⟨e1, e2, e3⟩ := gj d
 unfold mW
 split
 ·exact ha
 ·refine ⟨h.now, fun n => ?_, ha.w, ha.f, ha.r⟩
  simp only [List.take_nil, List.foldl_nil]
  rw [e3]; exact h.IF
end Go.bY
namespace Go.bY
open Go Go.Vc Go.aD
open Classical in
noncomputable def zS {α : Type} (f : α → Int) (l : List α) (x : α) : List α := if ∃ y ∈ l, f y = f x then l.map (fun y => if f y = f x then x else y) else l ++ [x]
theorem yR {α : Type} (f : α → Int) (x : α) : ∀ {l : List α}, (l.map f).Nodup → (zS f l x).Perm (x :: l.filter fun y => decide (f y ≠ f x))
 | [], _ => by unfold zS; rw [if_neg (by simp)]; exact .refl _
 | y :: t, h => by
   have hn := List.nodup_cons.1 h
   have ih := yR f x hn.2
   by_cases e : f y = f x
   ·have hno : ∀ z ∈ t, f z ≠ f x := fun z hz q => hn.1 (List.mem_map.2 ⟨z, hz, q.trans e.symm⟩)
    unfold zS
    rw [if_pos ⟨y, .head _, e⟩, List.map_cons, if_pos e, List.filter_cons, if_neg (by simp [e])]
    rw [List.filter_eq_self.2 (fun z hz => by simpa using hno z hz)]
    have : t.map (fun y => if f y = f x then x else y) = t := by
     conv => rhs; rw [← List.map_id t]
     exact List.map_congr_left fun z hz => by rw [if_neg (hno z hz)]; rfl
    rw [this]
   ·rw [List.filter_cons, if_pos (by simp [e])]
    refine List.Perm.trans ?_ (List.Perm.swap _ _ _)
    refine List.Perm.trans ?_ (List.Perm.cons y ih)
    unfold zS
    by_cases q : ∃ z ∈ t, f z = f x
    ·obtain ⟨z, hz, qz⟩ := q
     rw [if_pos ⟨z, .tail _ hz, qz⟩, if_pos ⟨z, hz, qz⟩, List.map_cons, if_neg e]
    ·rw [if_neg (by
      rintro ⟨z, hz, qz⟩
      rcases List.mem_cons.1 hz with rfl | hz
      ·exact e qz
      ·exact q ⟨z, hz, qz⟩), if_neg q]
     exact .refl _
theorem Gc {α : Type} {f : α → Int} {l : List α} {x y : α} (h : y ∈ zS f l x) : y = x ∨ y ∈ l := by
 unfold zS at h
 split at h
 ·obtain ⟨z, hz, e⟩ := List.mem_map.1 h
  split at e
  ·exact .inl e.symm
  ·exact .inr (e ▸ hz)
 ·rcases List.mem_append.1 h with h | h
  ·exact .inr h
  ·exact .inl (by simpa using h)
theorem Gd {α : Type} {f : α → Int} {g : α → List Int} {l : List α} {s : List jo} (x : α) (h : (l.map fun y => (f y, g y)).Perm s) (hn : (dL s).Nodup) : ((zS f l x).map fun y => (f y, g y)).Perm (lay s (f x, g x)) := by
 have hk : (l.map f).Nodup := by
  have := (h.map fun y : jo => y.1).nodup_iff.2 hn
  rwa [List.map_map] at this
 refine ((yR f x hk).map _).trans ?_
 refine List.Perm.trans ?_ (nG s (f x, g x)).symm
 rw [List.map_cons]
 refine List.Perm.cons _ ?_
 have := h.filter fun y => decide (y.1 ≠ f x)
 rw [List.filter_map] at this
 exact this
abbrev Rc:=Int × Int × List Int
def cQ(best:Rc)(slot:Int)(r:Int × List Int × Int):Rc:=if r.2.2=0/\r.1>best.2.1 then(slot,r.1,r.2.1)else best
def gi (D : Dk) (id : Int) : Rc := cQ (cQ (2 * id + 1, 0, []) (2 * id) (eu (getD D (2 * id)))) (2 * id + 1) (eu (getD D (2 * id + 1)))
def rH (id : Int) : Bool := decide (0 ≤ id) && decide (id ≤ 1099511627776)
def qp (D : Dk) (id : Int) : List Int × Int × Bool := if rH id = true then ((gi D id).2.2, (gi D id).2.1, decide ((gi D id).2.1 > 0)) else ([], 0, false)
def ym (D : Dk) (id : Int) (body : List Int) : Dk × Int :=
 if rH id = true then
  if (vC ((gi D id).2.1 + 1) body).2 ≠ 0 then (D, (vC ((gi D id).2.1 + 1) body).2)
  else if (iZ D (4 * id + 1 - (gi D id).1) (vC ((gi D id).2.1 + 1) body).1).2 ≠ 0 then iZ D (4 * id + 1 - (gi D id).1) (vC ((gi D id).2.1 + 1) body).1
  else mW (iZ D (4 * id + 1 - (gi D id).1) (vC ((gi D id).2.1 + 1) body).1).1
 else (D, 1)
theorem Ii (n : Nat) : (2 * n) ^^^ 1 = 2 * n + 1 ∧ (2 * n + 1) ^^^ 1 = 2 * n := by
 have h1 := Nat.xor_div_two (a := 2 * n) (b := 1)
 have par : ∀ a : Nat, (a ^^^ 1) % 2 = 1 ↔ ¬ a % 2 = 1 := fun a => by
  have := Nat.testBit_xor a 1 0
  rw [Nat.testBit_zero, Nat.testBit_zero, Nat.testBit_zero] at this
  simp only [Nat.reduceMod, decide_true, Bool.xor_true] at this
  rw [← decide_eq_true_iff (p := (a ^^^ 1) % 2 = 1), this]
  simp
 have h2 := par (2 * n)
 have h3 := Nat.xor_div_two (a := 2 * n + 1) (b := 1)
 have h4 := par (2 * n + 1)
 rw [show 1 / 2 = 0 from rfl, Nat.xor_zero] at h1 h3
 omega
theorem Ge {id : Int} (h : 0 ≤ id ∧ id ≤ 1099511627776) : dJ .i64 (2 * id) 1 = 2 * id + 1 ∧ dJ .i64 (2 * id + 1) 1 = 2 * id := by
 have key : ∀ n : Nat, n ≤ 2 ^ 60 → dJ .i64 (n : Int) 1 = ((n ^^^ 1 : Nat) : Int) := fun n hn => by
  show IntKind.wrap .i64 ((BitVec.ofInt 64 (n : Int) ^^^ BitVec.ofInt 64 1).toNat : Nat) = _
  have e1 : (BitVec.ofInt 64 (n : Int)).toNat = n := by
   rw [BitVec.toNat_ofInt]
   simp only [show ((2 ^ 64 : Nat) : Int) = 18446744073709551616 from rfl]
   omega
  rw [BitVec.toNat_xor, e1]
  show IntKind.wrap .i64 ((n ^^^ 1 : Nat) : Int) = _
  have : n ^^^ 1 < 2 ^ 61 := Nat.xor_lt_two_pow (by omega) (by decide)
  exact wI
 obtain ⟨x1, x2⟩ := Ii id.toNat
 constructor
 ·have := key (2 * id.toNat) (by omega)
  rw [x1] at this
  rw [show 2 * id = ((2 * id.toNat : Nat) : Int) by omega, this]; omega
 ·have := key (2 * id.toNat + 1) (by omega)
  rw [x2] at this
  rw [show 2 * id + 1 = ((2 * id.toNat + 1 : Nat) : Int) by omega, this]; omega
theorem vX{best:Rc}{slot:Int}{r:Int × List Int × Int}:(cQ best slot r).1=best.1\/(cQ best slot r).1=slot:=by
 unfold cQ
 split
 ·exact .inr rfl
 ·exact .inl rfl
theorem Gf (D : Dk) (id : Int) : (gi D id).1 = 2 * id ∨ (gi D id).1 = 2 * id + 1 := by
 unfold gi
 rcases vX (best := cQ (2 * id + 1, 0, []) (2 * id) (eu (getD D (2 * id)))) (slot := 2 * id + 1) (r := eu (getD D (2 * id + 1))) with h | h
 ·rw [h]
  rcases vX (best := (2 * id + 1, 0, [])) (slot := 2 * id) (r := eu (getD D (2 * id))) with h | h
  ·exact .inr h
  ·exact .inl h
 ·exact .inr h
theorem JK(b:List Int):0<=(eu b).1/\(eu b).1<=1073741824:=by
 by_cases h:(eu b).2.2=0
 ·have:=Gg h;omega
 ·rw [(KK h).1];omega
theorem DI {best : Rc} {slot : Int} (b : List Int) (h : 0 ≤ best.2.1 ∧ best.2.1 ≤ 1073741824) : 0 ≤ (cQ best slot (eu b)).2.1 ∧ (cQ best slot (eu b)).2.1 ≤ 1073741824 := by
 unfold cQ
 split
 ·exact JK b
 ·exact h
theorem KL (D : Dk) (id : Int) : 0 ≤ (gi D id).2.1 ∧ (gi D id).2.1 ≤ 1073741824 := DI _ (DI _ (show (0 : Int) ≤ 0 ∧ (0 : Int) ≤ 1073741824 by decide))
theorem Gh(D:Dk):(eQ D).1.l=D.l:=(gj D).2.1
theorem Gi(D:Dk)(k:Int)(b:List Int):(iZ D k b).1.l.length<=D.l.length+1:=by
 unfold iZ
 split
 ·rw [Gh];omega
 ·split
  ·rw [Gh];omega
  ·simp
theorem JL(D:Dk):(mW D).1.l.length<=D.l.length:=by
 unfold mW
 split
 ·rw [Gh];omega
 ·simp
theorem JM (D : Dk) (id : Int) (b : List Int) : (ym D id b).1.l.length ≤ D.l.length + 1 := by
 unfold ym
 split
 ·split
  ·exact Nat.le_succ _
  ·split
   ·exact Gi _ _ _
   ·exact Nat.le_trans (JL _) (Gi _ _ _)
 ·exact Nat.le_succ _
end Go.bY
namespace Go.bY
open Go Go.Vc Go.aD
theorem IE {room id : Int} : qp ⟨room, 0, 0, [], []⟩ id = ([], 0, false) := by
 unfold qp
 split <;> rfl
end Go.bY
namespace Go.j3
open Go Go.Vc
abbrev Cl:=Int × Int × Int
abbrev It:=Int × Cl
def cv(c:Cl):Value:=.agg #[c.1,c.2.1,c.2.2]
def tv(t:Int):Value:=.int .i64 t
abbrev di(c:Cl):List Value:=[.int .i64 c.1,.int .i64 c.2.1,.int .i64 c.2.2]
abbrev a9(x:It):List Value:=[.int .i64 x.1,.int .i64 x.2.1,.int .i64 x.2.2.1,.int .i64 x.2.2.2]
theorem xt{a b:Cl}(h:cv a=cv b):a=b:=by
 unfold cv at h
 obtain⟨a1,a2,a3⟩:=a
 obtain⟨b1,b2,b3⟩:=b
 simp at h
 obtain⟨rfl,rfl,rfl⟩:=h
 rfl
structure QS where
 room:Int
 lost:Int
 l:List It
def aP(l:List It)(c:Cl):List It:=l.filter fun x=>x.2 !=c
def lI (l : List It) (x : It) : List It := l.takeWhile (fun y => y.1 ≤ x.1) ++ x :: l.dropWhile (fun y => y.1 ≤ x.1)
def dX (l : List It) (c : Cl) : Option Int := (l.find? fun x => x.2 == c).map (·.1)
def bM (q : QS) (c : Cl) (t : Int) : QS × Bool :=
 match dX q.l c with
 | some was => if was ≤ t then (q, false) else ({ q with l := lI (aP q.l c) (t, c) }, true)
 | none => if (q.l.length : Int) ≥ q.room then ({ q with lost := q.lost + 1 }, false) else ({ q with l := lI q.l (t, c) }, true)
def eC (l : List It) (now many : Int) : Nat := min (l.takeWhile fun y => y.1 ≤ now).length many.toNat
def nt (q : QS) (now many : Int) : QS × List Cl := ({ q with l := q.l.drop (eC q.l now many) }, (q.l.take (eC q.l now many)).map (·.2))
structure rV (q : QS) : Prop where
 room : 1 ≤ q.room ∧ q.room ≤ 4096
 len : (q.l.length : Int) ≤ q.room
 sorted : q.l.Pairwise fun a b => a.1 ≤ b.1
 nodup : (q.l.map (·.2)).Nodup
theorem uu(l:List It)(c:Cl):(aP l c).Sublist l:=List.filter_sublist
theorem rf {l : List It} {c : Cl} {t : Int} (h : dX l c = some t) : (t, c) ∈ l := by
 unfold dX at h
 cases hf : l.find? (fun x => x.2 == c) with
 | none => rw [hf] at h; cases h
 | some x =>
   rw [hf] at h
   have h1 := List.find?_some hf
   have h2 := List.mem_of_find?_eq_some hf
   obtain ⟨a, b⟩ := x
   simp at h h1
   subst h; subst h1; exact h2
theorem mJ {l : List It} {c : Cl} (h : dX l c = none) : ∀ x ∈ l, x.2 ≠ c := by
 unfold dX at h
 rw [Option.map_eq_none_iff, List.find?_eq_none] at h
 intro x hx e
 exact h x hx (by simp [e])
theorem zf {l : List It} (h : l.Pairwise fun a b => a.1 ≤ b.1) (t : Int) : (∀ y ∈ l.takeWhile (fun y => y.1 ≤ t), y.1 ≤ t) ∧ (∀ y ∈ l.dropWhile (fun y => y.1 ≤ t), t < y.1) := by
 induction l with
 | nil => simp
 | cons a l ih =>
   rw [List.pairwise_cons] at h
   by_cases ha : a.1 ≤ t
   ·rw [List.takeWhile_cons_of_pos (by simpa using ha), List.dropWhile_cons_of_pos (by simpa using ha)]
    obtain ⟨i1, i2⟩ := ih h.2
    refine ⟨fun y hy => ?_, i2⟩
    rcases List.mem_cons.1 hy with rfl | hy
    ·exact ha
    ·exact i1 y hy
   ·rw [List.takeWhile_cons_of_neg (by simpa using ha), List.dropWhile_cons_of_neg (by simpa using ha)]
    refine ⟨by simp, fun y hy => ?_⟩
    rcases List.mem_cons.1 hy with rfl | hy
    ·omega
    ·have := h.1 y hy; omega
theorem ji {l : List It} (h : l.Pairwise fun a b => a.1 ≤ b.1) (t : Int) {i : Nat} {y : It} (hi : l[i]? = some y) : i < (l.takeWhile (fun y => y.1 ≤ t)).length ↔ y.1 ≤ t := by
 have hs := zf h t
 have e := List.takeWhile_append_dropWhile (p := fun y : It => decide (y.1 ≤ t)) (l := l)
 constructor
 ·intro hlt
  rw [← e, List.getElem?_append_left hlt] at hi
  exact hs.1 y (List.mem_of_getElem? hi)
 ·intro hle
  rcases Nat.lt_or_ge i (l.takeWhile (fun y => y.1 ≤ t)).length with hlt | hge
  ·exact hlt
  ·rw [← e, List.getElem?_append_right hge] at hi
   have := hs.2 y (List.mem_of_getElem? hi)
   omega
theorem sy (l : List It) (x : It) : l.take (l.takeWhile fun y => decide (y.1 ≤ x.1)).length ++ x :: l.drop (l.takeWhile fun y => decide (y.1 ≤ x.1)).length = lI l x := by
 have h : ∀ (a b l : List It), a ++ b = l → l.take a.length ++ x :: l.drop a.length = a ++ x :: b := by rintro a b _ rfl; simp
 exact h _ _ _ (List.takeWhile_append_dropWhile (p := fun y : It => decide (y.1 ≤ x.1)) (l := l))
theorem BH (l : List It) (x : It) : (lI l x).length = l.length + 1 := by
 have e := congrArg List.length (List.takeWhile_append_dropWhile (p := fun y : It => decide (y.1 ≤ x.1)) (l := l))
 unfold lI
 simp only [List.length_append, List.length_cons] at e ⊢
 omega
theorem xu (l : List It) (x y : It) : y ∈ lI l x ↔ y = x ∨ y ∈ l := by
 unfold lI
 conv => rhs; rw [← List.takeWhile_append_dropWhile (p := fun y : It => decide (y.1 ≤ x.1)) (l := l)]
 simp only [List.mem_append, List.mem_cons]
 constructor
 ·rintro (h | h | h)
  ·exact .inr (.inl h)
  ·exact .inl h
  ·exact .inr (.inr h)
 ·rintro (h | h | h)
  ·exact .inr (.inl h)
  ·exact .inl h
  ·exact .inr (.inr h)
theorem vb {l : List It} (h : l.Pairwise fun a b => a.1 ≤ b.1) (x : It) : (lI l x).Pairwise fun a b => a.1 ≤ b.1 := by
 have hs := zf h x.1
 have e := List.takeWhile_append_dropWhile (p := fun y : It => decide (y.1 ≤ x.1)) (l := l)
 unfold lI
 rw [← e, List.pairwise_append] at h
 rw [List.pairwise_append]
 refine ⟨h.1, List.pairwise_cons.2 ⟨fun y hy => by have := hs.2 y hy; omega, h.2.1⟩, fun a ha b hb => ?_⟩
 rcases List.mem_cons.1 hb with rfl | hb
 ·exact hs.1 a ha
 ·exact h.2.2 a ha b hb
theorem xy {l : List It} (h : (l.map (·.2)).Nodup) {x : It} (hx : ∀ y ∈ l, y.2 ≠ x.2) : ((lI l x).map (·.2)).Nodup := by
 have e := List.takeWhile_append_dropWhile (p := fun y : It => decide (y.1 ≤ x.1)) (l := l)
 unfold lI
 have hx' : ∀ y ∈ l.takeWhile (fun y => y.1 ≤ x.1) ++ l.dropWhile (fun y => y.1 ≤ x.1), y.2 ≠ x.2 := by rw [e]; exact hx
 rw [← e, List.map_append, List.nodup_append] at h
 rw [List.map_append, List.map_cons, List.nodup_append]
 refine ⟨h.1, List.nodup_cons.2 ⟨fun hm => ?_, h.2.1⟩, fun a ha b hb => ?_⟩
 ·obtain ⟨y, hy, e⟩ := List.mem_map.1 hm
  exact hx' y (List.mem_append_right _ hy) e
 ·rcases List.mem_cons.1 hb with rfl | hb
  ·obtain ⟨y, hy, rfl⟩ := List.mem_map.1 ha
   exact hx' y (List.mem_append_left _ hy)
  ·exact h.2.2 a ha b hb
theorem rV.add {q : QS} (h : rV q) (c : Cl) (t : Int) : rV (bM q c t).1 := by
 unfold bM
 split
 ·rename_i was hw
  split
  ·exact h
  ·have hsub := uu q.l c
   have hlt : (aP q.l c).length < q.l.length := by
    have hm := rf hw
    have : (aP q.l c).length ≠ q.l.length := fun e => by
     have := hsub.eq_of_length e
     rw [← this] at hm
     unfold aP at hm
     simp at hm
    have := hsub.length_le
    omega
   have := h.len
   exact ⟨h.room, by rw [BH]; show ((_ : Nat) : Int) ≤ q.room; omega, vb (h.sorted.sublist hsub) _, xy ((hsub.map _).nodup h.nodup) (fun y hy => by
    unfold aP at hy
    simp at hy
    exact hy.2)⟩
 ·rename_i hn
  split
  ·exact ⟨h.room, h.len, h.sorted, h.nodup⟩
  ·exact ⟨h.room, by rw [BH]; show ((_ : Nat) : Int) ≤ q.room; omega, vb h.sorted _, xy h.nodup (mJ hn)⟩
theorem rV.drop {q : QS} (h : rV q) (c : Cl) : rV { q with l := aP q.l c } := by
 have hsub := uu q.l c
 have := hsub.length_le
 have := h.len
 exact ⟨h.room, by show ((aP q.l c).length : Int) ≤ q.room; omega, h.sorted.sublist hsub, (hsub.map _).nodup h.nodup⟩
theorem rV.due {q : QS} (h : rV q) (now many : Int) : rV (nt q now many).1 := by
 have hsub : (q.l.drop (eC q.l now many)).Sublist q.l := List.drop_sublist _ _
 have := hsub.length_le
 have := h.len
 exact ⟨h.room, by show ((q.l.drop (eC q.l now many)).length : Int) ≤ q.room; omega, h.sorted.sublist hsub, (hsub.map _).nodup h.nodup⟩
theorem pD (q : QS) (c : Cl) (t : Int) : q.lost ≤ (bM q c t).1.lost ∧ (bM q c t).1.lost ≤ q.lost + 1 := by
 unfold bM
 split
 ·split <;> exact ⟨Int.le_refl _, by show q.lost ≤ q.lost + 1; omega⟩
 ·split
  ·exact ⟨by show q.lost ≤ q.lost + 1; omega, Int.le_refl _⟩
  ·exact ⟨Int.le_refl _, by show q.lost ≤ q.lost + 1; omega⟩
def vw (q : QS) : List It → QS × Nat
 | [] => (q, 0)
 | x :: l => ((vw (bM q x.2 x.1).1 l).1, (if (bM q x.2 x.1).2 then 1 else 0) + (vw (bM q x.2 x.1).1 l).2)
theorem E2 {q : QS} (h : rV q) (now many : Int) {k : Nat} {x : It} (hx : q.l[k]? = some x) : k < eC q.l now many ↔ (k : Int) < many ∧ x.1 ≤ now := by
 have := ji h.sorted now hx
 unfold eC
 rw [← this]
 omega
theorem E3 (l : List It) (now many : Int) : eC l now many ≤ l.length := by
 have := (List.takeWhile_sublist (fun y : It => decide (y.1 ≤ now)) (l := l)).length_le
 unfold eC; omega
end Go.j3
namespace Go.j3
end Go.j3
namespace Go.j3
open Go Go.Vc
theorem HS {q : QS} {c : Cl} {t : Int} (hn : ∀ x ∈ q.l, x.2 ≠ c) (hr : (q.l.length : Int) < q.room) : bM q c t = ({ q with l := lI q.l (t, c) }, true) := by
 have hq : dX q.l c = none := by
  cases h : dX q.l c with
  | none => rfl
  | some t => exact absurd rfl (hn _ (rf h))
 unfold bM
 rw [hq]
 simp only
 rw [if_neg (by omega)]
end Go.j3
namespace Go.ij
open Go Go.Vc Go.bY Go.j3
abbrev Cg:=Ce × Int
def nr (b : Int) : Bool := decide (8 ≤ b) && decide (b < 16)
def aQ(b:Int):Int:=if b=3 then 2 else if nr b then 5 else 0
def cH(b:Int):Int:=if nr b then b-8 else -1
def eV (l : Int) : Int := 8 + min (max l 0) 7
def vG (b : Int) : Bool := decide (b = 0) || nr b
def a8(c:Ce):Ce:=(c.1,c.2.1-1,c.2.2)
def rR(c:Ce):Ce:=(c.1,c.2.1+1,c.2.2)
def aY(c:Ce):List Ce:=[(c.1-1,c.2.1,c.2.2),(c.1+1,c.2.1,c.2.2),(c.1,c.2.1,c.2.2-1),(c.1,c.2.1,c.2.2+1)]
def eK(c:Ce):List Ce:=[(c.1-1,c.2.1,c.2.2),(c.1+1,c.2.1,c.2.2),a8 c,rR c,(c.1,c.2.1,c.2.2-1),(c.1,c.2.1,c.2.2+1)]
def eY (V : Ce → Int) (c : Ce) : List Ce := (c :: eK c).filter fun n => decide (0 < aQ (V n))
def m7 (V : Ce → Int) (now : Int) (q : QS) (c : Ce) : QS := (eY V c).foldl (fun q n => (bM q n (now + aQ (V n))).1) q
def Aa (V : Ce → Int) (l : List Ce) : Int := l.foldl (fun m n => if 0 ≤ cH (V n) then min m (cH (V n)) else m) 7
def c8 (V : Ce → Int) (c : Ce) : Int × Bool := if nr (V (rR c)) then (1, true) else if Aa V (aY c) = 7 then (0, false) else (Aa V (aY c) + 1, true)
def zx (V : Ce → Int) (c : Ce) : List Cg := if vG (V (a8 c)) then [(c, V (a8 c)), (a8 c, 3)] else []
def il (V : Ce → Int) (c : Ce) (level : Int) : List Cg :=
 if 0 < level ∧ (c8 V c).2 = false then [(c, 0)]
 else if 0 < level ∧ (c8 V c).1 ≠ level then [(c, eV (c8 V c).1)]
 else if V (a8 c) = 0 then [(a8 c, eV 1)]
 else if nr (V (a8 c)) = true ∨ 7 ≤ level then []
 else ((aY c).filter fun n => decide (V n = 0)).map fun n => (n, eV (level + 1))
def jz (V : Ce → Int) (c : Ce) : List Cg := if V c = 3 then zx V c else if nr (V c) then il V c (cH (V c)) else []
theorem Bf {V : Ce → Int} {c : Ce} (h0 : aQ (V c) = 0) (h : ∀ n ∈ eK c, aQ (V n) = 0) : eY V c = [] := by
 unfold eY
 rw [List.filter_eq_nil_iff]
 intro n hn
 rcases List.mem_cons.1 hn with rfl | hn
 ·rw [h0]; decide
 ·rw [h n hn]; decide
theorem CQ {V : Ce → Int} {c : Ce} (h0 : 0 < aQ (V c)) (h : ∀ n ∈ eK c, aQ (V n) = 0) : eY V c = [c] := by
 unfold eY
 rw [List.filter_cons, if_pos (by simpa using h0), List.filter_eq_nil_iff.2 fun n hn => by rw [h n hn]; decide]
theorem lD : aQ 0 = 0 := by decide
theorem wE:aQ 3=2:=by decide
theorem Gw {V : Ce → Int} {c : Ce} (h : V c = 3) (hl : V (a8 c) = 0) : jz V c = [(c, 0), (a8 c, 3)] := by
 unfold jz zx vG
 rw [if_pos h, hl, if_pos (by decide)]
end Go.ij
