import Derived.Test.YtjcnjlaelhdjeaaGreatDoorD
import Derived.Lib.FieldsP
import Derived.Deep.SlicePairs
import Derived.ProofKit
set_option linter.all false
namespace Go.Chk
open Go Go.Vc Go.Runs
def be : Nat → Int → List Int
 | 0, _ => []
 | m + 1, n => n / 256 ^ m % 256 :: be m n
def numY (b : List Int) : Int := b.foldl (fun n c => n * 256 + c) 0
def recB (v : Int) (body : List Int) : List Int := be 4 v ++ be 3 body.length ++ body
def sealB (b : List Int) : List Int := b ++ crcY b
def wrS (v : Int) (body : List Int) : List Int × Int := if v < 1 ∨ v > 1073741824 ∨ (body.length : Int) > 65536 then ([], 1) else (sealB (recB v body), 0)
def tkS (b : List Int) : List Int × Int := if b.length < 2 then ([], 3) else if crcB b = 0#16 then (b.take (b.length - 2), 0) else ([], 4)
def rdS (b : List Int) : Int × List Int × Int :=
 if (tkS b).2 ≠ 0 then (0, [], (tkS b).2)
 else if (tkS b).1.length < 7 then (0, [], 3)
 else if numY ((tkS b).1.take 4) < 1 ∨ numY ((tkS b).1.take 4) > 1073741824 ∨ numY (((tkS b).1.drop 4).take 3) > 65536 ∨ numY (((tkS b).1.drop 4).take 3) ≠ (((tkS b).1.drop 7).length : Int) then (0, [], 2)
 else (numY ((tkS b).1.take 4), (tkS b).1.drop 7, 0)
theorem be_len : ∀ (m : Nat) (n : Int), (be m n).length = m
 | 0, _ => rfl
 | m + 1, n => by simp [be, be_len m n]
theorem be_in : ∀ (m : Nat) (n : Int), Bys (be m n)
 | 0, _ => fun c hc => by cases hc
 | m + 1, n => fun c hc => by
   rcases ali16.1 hc with rfl | hc
   ·omega
   ·exact be_in m n c hc
theorem numY_app (b : List Int) (c : Int) : numY (b ++ [c]) = numY b * 256 + c := by unfold numY; rw [alj22]; rfl
theorem be4 {n : Int} (h : 0 ≤ n ∧ n < 4294967296) : numY (be 4 n) = n := by
 simp only [be, numY, alj23, List.foldl_nil, show (256 : Int) ^ 3 = 16777216 from rfl, show (256 : Int) ^ 2 = 65536 from rfl, show (256 : Int) ^ 1 = 256 from rfl, show (256 : Int) ^ 0 = 1 from rfl]
 omega
theorem be3 {n : Int} (h : 0 ≤ n ∧ n < 16777216) : numY (be 3 n) = n := by
 simp only [be, numY, alj23, List.foldl_nil, show (256 : Int) ^ 2 = 65536 from rfl, show (256 : Int) ^ 1 = 256 from rfl, show (256 : Int) ^ 0 = 1 from rfl]
 omega
theorem crcY_in (b : List Int) : Bys (crcY b) := fun c hc => by
 have := cI_bd (crcB b)
 simp only [crcY, ali16, ali36, or_false] at hc
 rcases hc with rfl | rfl <;> omega
theorem crcY_len (b : List Int) : (crcY b).length = 2 := rfl
theorem crc_seal (b : List Int) : crcB (sealB b) = 0#16 := by
 unfold sealB crcB
 rw [crcF_append]
 have := cI_bd (crcB b)
 exact (crc_two _ omm omm).2 (by unfold crcB at *; omega)
theorem tk_seal (b : List Int) : tkS (sealB b) = (b, 0) := by
 have hl : (sealB b).length = b.length + 2 := by unfold sealB; rw [ali07, crcY_len]
 unfold tkS
 rw [if_neg omm, if_pos (crc_seal b), hl]
 unfold sealB
 simp
theorem Bys.app {a b : List Int} (ha : Bys a) (hb : Bys b) : Bys (a ++ b) := fun c hc => (ali25.1 hc).elim (ha c) (hb c)
theorem recB_in {v : Int} {body : List Int} (h : Bys body) : Bys (recB v body) := ((be_in 4 v).app (be_in 3 _)).app h
theorem sealB_in {b : List Int} (h : Bys b) : Bys (sealB b) := h.app (crcY_in b)
theorem wrS_in {v : Int} {body : List Int} (h : Bys body) : Bys (wrS v body).1 := by
 unfold wrS
 split
 ·intro c hc; cases hc
 ·exact sealB_in (recB_in h)
theorem recB_len (v : Int) (body : List Int) : (recB v body).length = 7 + body.length := by unfold recB; simp [be_len]; omega
theorem sealB_len (b : List Int) : (sealB b).length = b.length + 2 := by unfold sealB; rw [ali07, crcY_len]
theorem rd_wr {v : Int} {body : List Int} (hv : 1 ≤ v ∧ v ≤ 1073741824) (hb : (body.length : Int) ≤ 65536) : rdS (sealB (recB v body)) = (v, body, 0) := by
 have e4 := be_len 4 v
 have e3 := be_len 3 (body.length : Int)
 have t4 : (recB v body).take 4 = be 4 v := by
  unfold recB; rw [ali15, alj53 omm, ali11 omm]
 have d4 : (recB v body).drop 4 = be 3 body.length ++ body := by
  unfold recB; rw [ali15, List.drop_append_of_le_length omm, alj12 omm]; rfl
 have d7 : (recB v body).drop 7 = body := by
  unfold recB; rw [List.drop_append_of_le_length (by rw [ali07]; omega), alj12 (by rw [ali07]; omega)]; rfl
 have t3 : ((recB v body).drop 4).take 3 = be 3 body.length := by rw [d4, alj53 omm, ali11 omm]
 unfold rdS
 simp only [tk_seal]
 rw [if_neg smm, if_neg (by rw [recB_len]; omega), t4, t3, d7, be4 omm, be3 omm, if_neg omm]
theorem rdS_v {b : List Int} : (rdS b).2.2 = 0 → 1 ≤ (rdS b).1 ∧ (rdS b).1 ≤ 1073741824 := by
 intro h
 unfold rdS at h ⊢
 split at h
 ·rename_i q; exact absurd h q
 ·rename_i q
  rw [if_neg q]
  split at h
  ·cases h
  ·rename_i q2
   rw [if_neg q2]
   split at h
   ·cases h
   ·rename_i q3
    rw [if_neg q3]
    simp only [not_or] at q3
    simp only; omega
theorem rdS_n {b : List Int} : (rdS b).2.2 ≠ 0 → (rdS b).1 = 0 ∧ (rdS b).2.1 = [] := by
 intro h
 unfold rdS at h ⊢
 split
 ·exact ⟨rfl, rfl⟩
 ·split
  ·exact ⟨rfl, rfl⟩
  ·split
   ·exact ⟨rfl, rfl⟩
   ·rename_i q q2 q3
    rw [if_neg q, if_neg q2, if_neg q3] at h
    exact absurd rfl h
theorem numY_bd {b : List Int} (hb : Bys b) : ∀ k : Nat, 0 ≤ numY (b.take k) ∧ numY (b.take k) < 256 ^ k
 | 0 => by rw [ali40]; exact ⟨alj06 0, by decide⟩
 | k + 1 => by
   obtain ⟨h1, h2⟩ := numY_bd hb k
   rw [ali09]
   cases hx : b[k]? with
   | none =>
     rw [Int.pow_succ]
     simp only [Option.toList_none, ali44]
     generalize (256 : Int) ^ k = p at *
     omega
   | some x =>
     have := hb x (ali00 hx)
     rw [Int.pow_succ]
     simp only [Option.toList_some]
     rw [numY_app]
     generalize (256 : Int) ^ k = p at *
     omega
theorem numY_small {b : List Int} (hb : Bys b) {k : Nat} (hk : k ≤ 4) : 0 ≤ numY (b.take k) ∧ numY (b.take k) < 4294967296 := by
 obtain ⟨h1, h2⟩ := numY_bd hb k
 have h3 : (256 : Int) ^ k ≤ 4294967296 := by
  rcases k with _ | _ | _ | _ | _ | k
  ·decide
  ·decide
  ·decide
  ·decide
  ·decide
  ·omega
 exact ⟨h1, Int.lt_of_lt_of_le h2 h3⟩
theorem bOr_byte {n c : Int} (hn : 0 ≤ n ∧ n < 281474976710656) (hc : 0 ≤ c ∧ c < 256) : bOr .i64 (n * 256) c = n * 256 + c := by
 show wqq ((BitVec.ofInt 64 (n * 256) ||| BitVec.ofInt 64 c).toNat : Nat) = _
 have e1 : (BitVec.ofInt 64 (n * 256)).toNat = 2 ^ 8 * n.toNat := by
  rw [alj03]
  simp only [show ((2 ^ 64 : Nat) : Int) = 18446744073709551616 from rfl, show (2 : Nat) ^ 8 = 256 from rfl]
  omega
 have e2 : (BitVec.ofInt 64 c).toNat = c.toNat := by
  rw [alj03]
  simp only [show ((2 ^ 64 : Nat) : Int) = 18446744073709551616 from rfl]
  omega
 rw [BitVec.toNat_or, e1, e2, ← Nat.two_pow_add_eq_or_of_lt (i := 8) (b := c.toNat) omm n.toNat]
 simp only [show (2 : Nat) ^ 8 = 256 from rfl]
 have : ((256 * n.toNat + c.toNat : Nat) : Int) = n * 256 + c := by omega
 rw [this]
 exact wI
abbrev Wr1 := Int × List Int
structure Dk where
 room : Int
 fails : Int
 wait : Int
 safe : List Wr1
 l : List Wr1
def layG : Bool → List Wr1 → Wr1 → List Wr1
 | done, [], w => if done then [] else [w]
 | done, x :: t, w => (if done = false ∧ x.1 ≥ w.1 then [w] else []) ++ (if x.1 ≠ w.1 then [x] else []) ++ layG (done || decide (x.1 ≥ w.1)) t w
def lay (l : List Wr1) (w : Wr1) : List Wr1 := layG false l w
def nowD (d : Dk) : List Wr1 := d.l.foldl lay d.safe
def lenB (l : List Wr1) : Nat := (l.map fun x => x.2.length).sum
def getB (l : List Wr1) (k : Int) : Option (List Int) := (l.find? fun x => x.1 == k).map (·.2)
def failD (d : Dk) (n : Int) : Dk := if n < 0 then { d with fails := min (-n) 1048576, wait := 1 } else { d with fails := n, wait := 0 }
def askD (d : Dk) : Dk × Bool := if 0 < d.wait then ({ d with wait := 0 }, false) else if 0 < d.fails then ({ d with fails := d.fails - 1 }, true) else (d, false)
def putD (d : Dk) (k : Int) (b : List Int) : Dk × Int :=
 if (askD d).2 = true then ((askD d).1, 9) else if (lenB (lay (nowD d) (k, b)) : Int) > d.room then ((askD d).1, 8) else ({ (askD d).1 with l := d.l ++ [(k, b)] }, 0)
def getD (d : Dk) (k : Int) : List Int := (getB (nowD d) k).getD []
def syncD (d : Dk) : Dk × Int := if (askD d).2 = true then ((askD d).1, 9) else ({ (askD d).1 with safe := nowD d, l := [] }, 0)
def crashG : Int → List Wr1 → List Wr1 → List Wr1
 | _, s, [] => s
 | n, s, w :: t => if (w.2.length : Int) ≤ n then crashG (n - w.2.length) (lay s w) t else lay s (w.1, w.2.take n.toNat)
def keepD (d : Dk) (keep : Int) : Int := min (max keep 0) (lenB d.l)
def crashD (d : Dk) (keep : Int) : Dk × Int := ({ d with safe := crashG (keepD d keep) d.safe d.l, l := [], fails := 0, wait := 0 }, lenB d.l - keepD d keep)
theorem layG_true : ∀ (l : List Wr1) (w : Wr1), layG true l w = l.filter fun x => decide (x.1 ≠ w.1)
 | [], _ => rfl
 | x :: t, w => by
   unfold layG
   rw [if_neg smm, Bool.true_or, layG_true t w, alj16]
   by_cases h : x.1 = w.1 <;> simp [h]
theorem lay_perm : ∀ (l : List Wr1) (w : Wr1), (lay l w).Perm (w :: l.filter fun x => decide (x.1 ≠ w.1))
 | [], _ => .refl _
 | x :: t, w => by
   unfold lay layG
   rw [Bool.false_or]
   by_cases h : x.1 ≥ w.1
   ·rw [if_pos ⟨rfl, h⟩, decide_eq_true h, layG_true, alj16]
    by_cases h2 : x.1 = w.1
    ·rw [if_neg (by simp [h2]), if_neg (by simp [h2])]; exact .refl _
    ·rw [if_pos h2, if_pos (by simp [h2])]; exact .refl _
   ·rw [if_neg fun q => h q.2, decide_eq_false h, if_pos omm, alj16, if_pos (by simp; omega)]
    have ih := lay_perm t w
    unfold lay at ih
    exact (List.Perm.cons x ih).trans (List.Perm.swap _ _ _)
def keysOf (l : List Wr1) : List Int := l.map (·.1)
theorem filter_nodup {l : List Wr1} (p : Wr1 → Bool) (h : (keysOf l).Nodup) : (keysOf (l.filter p)).Nodup := h.sublist ((List.filter_sublist).map _)
theorem lay_nodup {l : List Wr1} {w : Wr1} (h : (keysOf l).Nodup) : (keysOf (lay l w)).Nodup := by
 refine ((lay_perm l w).map (·.1)).nodup_iff.2 ?_
 rw [ali17]
 refine alj48.2 ⟨fun hm => ?_, filter_nodup _ h⟩
 obtain ⟨x, hx, e⟩ := ali06.1 hm
 have := (alj40.1 hx).2
 simp at this
 exact this e
theorem foldl_nodup : ∀ (t : List Wr1) {l : List Wr1}, (keysOf l).Nodup → (keysOf (t.foldl lay l)).Nodup
 | [], _, h => h
 | w :: t, _, h => foldl_nodup t (lay_nodup h)
theorem lenB_perm {a b : List Wr1} (h : a.Perm b) : lenB a = lenB b := (h.map fun x : Wr1 => x.2.length).sum_nat
theorem lenB_cons (x : Wr1) (t : List Wr1) : lenB (x :: t) = x.2.length + lenB t := rfl
theorem lenB_app (a b : List Wr1) : lenB (a ++ b) = lenB a + lenB b := by unfold lenB; rw [ali08, List.sum_append_nat]
theorem getB_some {l : List Wr1} (h : (keysOf l).Nodup) {k : Int} {b : List Int} : getB l k = some b ↔ (k, b) ∈ l := by
 unfold getB
 induction l with
 | nil => simp
 | cons x t ih =>
   have hn := alj48.1 h
   rw [List.find?_cons]
   by_cases e : x.1 = k
   ·rw [beq_iff_eq.2 e]
    simp only [alj69, Option.some.injEq, ali16]
    constructor
    ·rintro rfl; exact .inl (by rw [← e])
    ·rintro (q | q)
     ·rw [← q]
     ·exact absurd (ali06.2 ⟨_, q, e.symm⟩) hn.1
   ·rw [show (x.1 == k) = false by simpa using e, ih hn.2]
    simp only [ali16]
    constructor
    ·exact .inr
    ·rintro (q | q)
     ·exact absurd (by rw [← q]) e
     ·exact q
theorem getB_none {l : List Wr1} {k : Int} : getB l k = none ↔ ∀ x ∈ l, x.1 ≠ k := by
 unfold getB
 rw [Option.map_eq_none_iff, alj20]
 simp
theorem getB_perm {a b : List Wr1} (h : a.Perm b) (ha : (keysOf a).Nodup) (k : Int) : getB a k = getB b k := by
 have hb : (keysOf b).Nodup := (h.map fun x : Wr1 => x.1).nodup_iff.1 ha
 cases q : getB b k with
 | some x => exact (getB_some ha).2 (h.mem_iff.2 ((getB_some hb).1 q))
 | none => exact getB_none.2 fun x hx => getB_none.1 q x (h.mem_iff.1 hx)
theorem getB_lay {l : List Wr1} (h : (keysOf l).Nodup) (w : Wr1) (k : Int) : getB (lay l w) k = if k = w.1 then some w.2 else getB l k := by
 rw [getB_perm (lay_perm l w) (lay_nodup h)]
 by_cases e : k = w.1
 ·rw [if_pos e]
  unfold getB
  rw [List.find?_cons, beq_iff_eq.2 e.symm]; rfl
 ·rw [if_neg e]
  unfold getB
  rw [List.find?_cons, show (w.1 == k) = false by simpa using fun q => e q.symm, List.find?_filter]
  show Option.map _ (List.find? _ l) = Option.map _ (List.find? _ l)
  congr 1
  congr 1
  funext x
  by_cases q : x.1 = k
  ·simp [q, e]
  ·simp [q]
theorem lenB_filter {l : List Wr1} (h : (keysOf l).Nodup) (k : Int) : lenB (l.filter fun x => decide (x.1 ≠ k)) + ((getB l k).getD []).length = lenB l := by
 induction l with
 | nil => rfl
 | cons x t ih =>
   have hn := alj48.1 h
   rw [alj16]
   by_cases e : x.1 = k
   ·rw [if_neg (by simp [e])]
    have hg : getB (x :: t) k = some x.2 := by unfold getB; rw [List.find?_cons, beq_iff_eq.2 e]; rfl
    have ht : t.filter (fun x => decide (x.1 ≠ k)) = t := alj19.2 fun y hy => by
     simp only [ne_eq, decide_not, Bool.not_eq_true', ali28]
     intro q
     exact hn.1 (ali06.2 ⟨y, hy, q.trans e.symm⟩)
    rw [hg, ht, lenB_cons, Option.getD_some]; omega
   ·rw [if_pos (by simp [e])]
    have hg : getB (x :: t) k = getB t k := by unfold getB; rw [List.find?_cons, show (x.1 == k) = false by simpa using e]
    have := ih hn.2
    rw [hg, lenB_cons, lenB_cons]; omega
theorem lenB_lay {l : List Wr1} (h : (keysOf l).Nodup) (w : Wr1) : lenB (lay l w) + ((getB l w.1).getD []).length = lenB l + w.2.length := by
 have := lenB_filter h w.1
 rw [lenB_perm (lay_perm l w), lenB_cons]; omega
structure DkOk (d : Dk) : Prop where
 nd : (keysOf d.safe).Nodup
 len : ∀ k, (lenB ((d.l.take k).foldl lay d.safe) : Int) ≤ d.room
 w : 0 ≤ d.wait ∧ d.wait ≤ 1
 f : 0 ≤ d.fails ∧ d.fails ≤ 9223372036854775807
 r : 0 ≤ d.room ∧ d.room ≤ 1048576
theorem DkOk.now {d : Dk} (h : DkOk d) : (keysOf (nowD d)).Nodup := foldl_nodup _ h.nd
theorem DkOk.nlen {d : Dk} (h : DkOk d) : (lenB (nowD d) : Int) ≤ d.room := by
 have := h.len d.l.length
 rwa [ali26] at this
theorem askD_safe (d : Dk) : (askD d).1.safe = d.safe ∧ (askD d).1.l = d.l ∧ (askD d).1.room = d.room := by
 unfold askD
 split
 ·exact ⟨rfl, rfl, rfl⟩
 ·split <;> exact ⟨rfl, rfl, rfl⟩
theorem DkOk.ask {d : Dk} (h : DkOk d) : DkOk (askD d).1 := by
 obtain ⟨e1, e2, e3⟩ := askD_safe d
 refine ⟨by rw [e1]; exact h.nd, by rw [e1, e2, e3]; exact h.len, ?_, ?_, by rw [e3]; exact h.r⟩
 ·unfold askD
  have := h.w
  split
  ·simp
  ·split <;> exact this
 ·unfold askD
  have := h.f
  split
  ·exact this
  ·split
   ·simp only; omega
   ·exact this
theorem DkOk.put {d : Dk} (h : DkOk d) (k : Int) (b : List Int) : DkOk (putD d k b).1 := by
 have ha := h.ask
 obtain ⟨e1, e2, e3⟩ := askD_safe d
 unfold putD
 split
 ·exact ha
 ·split
  ·exact ha
  ·rename_i hr
   refine ⟨by rw [e1]; exact h.nd, fun n => ?_, ha.w, ha.f, ha.r⟩
   rw [e1, e3]
   simp only
   by_cases hn : n ≤ d.l.length
   ·rw [alj53 hn]; exact h.len n
   ·rw [ali11 (by simp; omega), alj22]
    show (lenB (lay (nowD d) (k, b)) : Int) ≤ _
    omega
theorem DkOk.sync {d : Dk} (h : DkOk d) : DkOk (syncD d).1 := by
 have ha := h.ask
 obtain ⟨e1, e2, e3⟩ := askD_safe d
 unfold syncD
 split
 ·exact ha
 ·refine ⟨h.now, fun n => ?_, ha.w, ha.f, ha.r⟩
  simp only [List.take_nil, List.foldl_nil]
  rw [e3]; exact h.nlen
theorem DkOk.fail {d : Dk} (h : DkOk d) {n : Int} (hn : inI n) : DkOk (failD d n) := by
 unfold inI at hn
 unfold failD
 split
 ·exact ⟨h.nd, h.len, by simp, by simp only; omega, h.r⟩
 ·exact ⟨h.nd, h.len, by simp, by simp only; omega, h.r⟩
theorem crash_ok (room : Int) : ∀ (t : List Wr1) (n : Int) {s : List Wr1}, 0 ≤ n → (keysOf s).Nodup → (∀ k, (lenB ((t.take k).foldl lay s) : Int) ≤ room) → (keysOf (crashG n s t)).Nodup ∧ (lenB (crashG n s t) : Int) ≤ room
 | [], n, s, _, h, hl => ⟨h, hl 0⟩
 | w :: t, n, s, hn, h, hl => by
   unfold crashG
   split
   ·exact crash_ok room t _ omm (lay_nodup h) fun k => by have := hl (k + 1); rwa [List.take_succ_cons] at this
   ·refine ⟨lay_nodup h, ?_⟩
    have h1 := hl 1
    have e1 := lenB_lay h w
    have e2 := lenB_lay h (w.1, w.2.take n.toNat)
    have h1 : (lenB (lay s w) : Int) ≤ room := h1
    simp only [ali12] at e2
    omega
theorem DkOk.crash {d : Dk} (h : DkOk d) (n : Int) : DkOk (crashD d n).1 := by
 obtain ⟨h1, h2⟩ := crash_ok d.room d.l (keepD d n) (s := d.safe) (by unfold keepD; omega) h.nd h.len
 refine ⟨h1, fun k => ?_, by simp [crashD], by simp [crashD], h.r⟩
 simp only [crashD, List.take_nil, List.foldl_nil]
 exact h2
end Go.Chk
namespace Go.Chk
open Go Go.Vc Go.Runs
open Classical in
noncomputable def insE {α : Type} (f : α → Int) (l : List α) (x : α) : List α := if ∃ y ∈ l, f y = f x then l.map (fun y => if f y = f x then x else y) else l ++ [x]
theorem insE_perm {α : Type} (f : α → Int) (x : α) : ∀ {l : List α}, (l.map f).Nodup → (insE f l x).Perm (x :: l.filter fun y => decide (f y ≠ f x))
 | [], _ => by unfold insE; rw [if_neg smm]; exact .refl _
 | y :: t, h => by
   have hn := alj48.1 h
   have ih := insE_perm f x hn.2
   by_cases e : f y = f x
   ·have hno : ∀ z ∈ t, f z ≠ f x := fun z hz q => hn.1 (ali06.2 ⟨z, hz, q.trans e.symm⟩)
    unfold insE
    rw [if_pos ⟨y, .head _, e⟩, ali17, if_pos e, alj16, if_neg (by simp [e])]
    rw [alj19.2 (fun z hz => by simpa using hno z hz)]
    have : t.map (fun y => if f y = f x then x else y) = t := by
     conv => rhs; rw [← List.map_id t]
     exact alj34 fun z hz => by rw [if_neg (hno z hz)]; rfl
    rw [this]
   ·rw [alj16, if_pos (by simp [e])]
    refine List.Perm.trans ?_ (List.Perm.swap _ _ _)
    refine List.Perm.trans ?_ (List.Perm.cons y ih)
    unfold insE
    by_cases q : ∃ z ∈ t, f z = f x
    ·obtain ⟨z, hz, qz⟩ := q
     rw [if_pos ⟨z, .tail _ hz, qz⟩, if_pos ⟨z, hz, qz⟩, ali17, if_neg e]
    ·rw [if_neg (by
      rintro ⟨z, hz, qz⟩
      rcases ali16.1 hz with rfl | hz
      ·exact e qz
      ·exact q ⟨z, hz, qz⟩), if_neg q]
     exact .refl _
theorem insE_mem {α : Type} {f : α → Int} {l : List α} {x y : α} (h : y ∈ insE f l x) : y = x ∨ y ∈ l := by
 unfold insE at h
 split at h
 ·obtain ⟨z, hz, e⟩ := ali06.1 h
  split at e
  ·exact .inl e.symm
  ·exact .inr (e ▸ hz)
 ·rcases ali25.1 h with h | h
  ·exact .inr h
  ·exact .inl (by simpa using h)
theorem insE_lay {α : Type} {f : α → Int} {g : α → List Int} {l : List α} {s : List Wr1} (x : α) (h : (l.map fun y => (f y, g y)).Perm s) (hn : (keysOf s).Nodup) : ((insE f l x).map fun y => (f y, g y)).Perm (lay s (f x, g x)) := by
 have hk : (l.map f).Nodup := by
  have := (h.map fun y : Wr1 => y.1).nodup_iff.2 hn
  rwa [alj35] at this
 refine ((insE_perm f x hk).map _).trans ?_
 refine List.Perm.trans ?_ (lay_perm s (f x, g x)).symm
 rw [ali17]
 refine List.Perm.cons _ ?_
 have := h.filter fun y => decide (y.1 ≠ f x)
 rw [List.filter_map] at this
 exact this
abbrev Rc := Int × Int × List Int
def stepS (best : Rc) (slot : Int) (r : Int × List Int × Int) : Rc := if r.2.2 = 0 ∧ r.1 > best.2.1 then (slot, r.1, r.2.1) else best
def ofS (D : Dk) (id : Int) : Rc := stepS (stepS (2 * id + 1, 0, []) (2 * id) (rdS (getD D (2 * id)))) (2 * id + 1) (rdS (getD D (2 * id + 1)))
def mayS (id : Int) : Bool := decide (0 ≤ id) && decide (id ≤ 1099511627776)
def ldS (D : Dk) (id : Int) : List Int × Int × Bool := if mayS id = true then ((ofS D id).2.2, (ofS D id).2.1, decide ((ofS D id).2.1 > 0)) else ([], 0, false)
def svS (D : Dk) (id : Int) (body : List Int) : Dk × Int :=
 if mayS id = true then
  if (wrS ((ofS D id).2.1 + 1) body).2 ≠ 0 then (D, (wrS ((ofS D id).2.1 + 1) body).2)
  else if (putD D (4 * id + 1 - (ofS D id).1) (wrS ((ofS D id).2.1 + 1) body).1).2 ≠ 0 then putD D (4 * id + 1 - (ofS D id).1) (wrS ((ofS D id).2.1 + 1) body).1
  else syncD (putD D (4 * id + 1 - (ofS D id).1) (wrS ((ofS D id).2.1 + 1) body).1).1
 else (D, 1)
theorem xor_one (n : Nat) : (2 * n) ^^^ 1 = 2 * n + 1 ∧ (2 * n + 1) ^^^ 1 = 2 * n := by
 have h1 := Nat.xor_div_two (a := 2 * n) (b := 1)
 have par : ∀ a : Nat, (a ^^^ 1) % 2 = 1 ↔ ¬ a % 2 = 1 := fun a => by
  have := Nat.testBit_xor a 1 0
  rw [Nat.testBit_zero, Nat.testBit_zero, Nat.testBit_zero] at this
  simp only [Nat.reduceMod, decide_true, Bool.xor_true] at this
  rw [← decide_eq_true_iff (p := (a ^^^ 1) % 2 = 1), this]
  simp
 have h2 := par (2 * n)
 have h3 := Nat.xor_div_two (a := 2 * n + 1) (b := 1)
 have h4 := par (2 * n + 1)
 rw [show 1 / 2 = 0 from rfl, Nat.xor_zero] at h1 h3
 omega
theorem bXor_one {id : Int} (h : 0 ≤ id ∧ id ≤ 1099511627776) : bXor .i64 (2 * id) 1 = 2 * id + 1 ∧ bXor .i64 (2 * id + 1) 1 = 2 * id := by
 have key : ∀ n : Nat, n ≤ 2 ^ 60 → bXor .i64 (n : Int) 1 = ((n ^^^ 1 : Nat) : Int) := fun n hn => by
  show wqq ((BitVec.ofInt 64 (n : Int) ^^^ BitVec.ofInt 64 1).toNat : Nat) = _
  have e1 : (BitVec.ofInt 64 (n : Int)).toNat = n := by
   rw [alj03]
   simp only [show ((2 ^ 64 : Nat) : Int) = 18446744073709551616 from rfl]
   omega
  rw [BitVec.toNat_xor, e1]
  show wqq ((n ^^^ 1 : Nat) : Int) = _
  have : n ^^^ 1 < 2 ^ 61 := Nat.xor_lt_two_pow omm dcc
  exact wI
 obtain ⟨x1, x2⟩ := xor_one id.toNat
 constructor
 ·have := key (2 * id.toNat) omm
  rw [x1] at this
  rw [show 2 * id = ((2 * id.toNat : Nat) : Int) by omega, this]; omega
 ·have := key (2 * id.toNat + 1) omm
  rw [x2] at this
  rw [show 2 * id + 1 = ((2 * id.toNat + 1 : Nat) : Int) by omega, this]; omega
theorem stepS_slot {best : Rc} {slot : Int} {r : Int × List Int × Int} : (stepS best slot r).1 = best.1 ∨ (stepS best slot r).1 = slot := by
 unfold stepS
 split
 ·exact .inr rfl
 ·exact .inl rfl
theorem ofS_slot (D : Dk) (id : Int) : (ofS D id).1 = 2 * id ∨ (ofS D id).1 = 2 * id + 1 := by
 unfold ofS
 rcases stepS_slot (best := stepS (2 * id + 1, 0, []) (2 * id) (rdS (getD D (2 * id)))) (slot := 2 * id + 1) (r := rdS (getD D (2 * id + 1))) with h | h
 ·rw [h]
  rcases stepS_slot (best := (2 * id + 1, 0, [])) (slot := 2 * id) (r := rdS (getD D (2 * id))) with h | h
  ·exact .inr h
  ·exact .inl h
 ·exact .inr h
theorem rdS_vb (b : List Int) : 0 ≤ (rdS b).1 ∧ (rdS b).1 ≤ 1073741824 := by
 by_cases h : (rdS b).2.2 = 0
 ·have := rdS_v h; omega
 ·rw [(rdS_n h).1]; omega
theorem stepS_v {best : Rc} {slot : Int} (b : List Int) (h : 0 ≤ best.2.1 ∧ best.2.1 ≤ 1073741824) : 0 ≤ (stepS best slot (rdS b)).2.1 ∧ (stepS best slot (rdS b)).2.1 ≤ 1073741824 := by
 unfold stepS
 split
 ·exact rdS_vb b
 ·exact h
theorem ofS_v (D : Dk) (id : Int) : 0 ≤ (ofS D id).2.1 ∧ (ofS D id).2.1 ≤ 1073741824 := stepS_v _ (stepS_v _ (show (0 : Int) ≤ 0 ∧ (0 : Int) ≤ 1073741824 by decide))
theorem DkOk.save {D : Dk} (h : DkOk D) (id : Int) (b : List Int) : DkOk (svS D id b).1 := by
 unfold svS
 split
 ·split
  ·exact h
  ·split
   ·exact h.put _ _
   ·exact (h.put _ _).sync
 ·exact h
theorem ask_l (D : Dk) : (askD D).1.l = D.l := (askD_safe D).2.1
theorem put_l (D : Dk) (k : Int) (b : List Int) : (putD D k b).1.l.length ≤ D.l.length + 1 := by
 unfold putD
 split
 ·rw [ask_l]; omega
 ·split
  ·rw [ask_l]; omega
  ·simp
theorem sync_l (D : Dk) : (syncD D).1.l.length ≤ D.l.length := by
 unfold syncD
 split
 ·rw [ask_l]; omega
 ·simp
theorem save_l (D : Dk) (id : Int) (b : List Int) : (svS D id b).1.l.length ≤ D.l.length + 1 := by
 unfold svS
 split
 ·split
  ·exact alj58 _
  ·split
   ·exact put_l _ _ _
   ·exact ali41 (sync_l _) (put_l _ _ _)
 ·exact alj58 _
end Go.Chk
namespace Go.Chk
open Go Go.Vc Go.Runs
structure Cln (D : Dk) : Prop where
 l : D.l = []
 f : D.fails = 0
 w : D.wait = 0
theorem Cln.ask {D : Dk} (h : Cln D) : askD D = (D, false) := by
 unfold askD
 rw [if_neg (by rw [h.w]; decide), if_neg (by rw [h.f]; decide)]
theorem Cln.now {D : Dk} (h : Cln D) : nowD D = D.safe := by unfold nowD; rw [h.l]; rfl
theorem len_keys : ∀ (K : List Int) {l : List Wr1}, (keysOf l).Nodup → (∀ x ∈ l, x.1 ∈ K) → l.length ≤ K.length
 | [], l, _, hk => by
   cases l with
   | nil => exact Nat.le_refl _
   | cons x t => exact absurd (hk x (.head _)) (by simp)
 | k :: K, l, hn, hk => by
   have h1 := len_keys K (l := l.filter fun x => decide (x.1 ≠ k)) (filter_nodup _ hn) fun x hx => by
    have hm := List.mem_filter.1 hx
    rcases List.mem_cons.1 (hk x hm.1) with e | e
    ·simp [e] at hm
    ·exact e
   have h2 : l.length ≤ (l.filter fun x => decide (x.1 ≠ k)).length + 1 := by
    clear h1 hk
    induction l with
    | nil => simp
    | cons x t ih =>
      have hn' := List.nodup_cons.1 hn
      rw [List.filter_cons]
      by_cases e : x.1 = k
      ·rw [if_neg (by simp [e])]
       have : t.filter (fun x => decide (x.1 ≠ k)) = t := List.filter_eq_self.2 fun y hy => by
        simp only [ne_eq, decide_not, Bool.not_eq_true', decide_eq_false_iff_not]
        intro q
        exact hn'.1 (List.mem_map.2 ⟨y, hy, q.trans e.symm⟩)
       rw [this]; simp
      ·rw [if_pos (by simp [e])]
       have := ih hn'.2
       simp only [List.length_cons]; omega
   simp only [List.length_cons]; omega
theorem lenB_le {m : Nat} : ∀ {l : List Wr1}, (∀ x ∈ l, x.2.length ≤ m) → lenB l ≤ l.length * m
 | [], _ => alj66 _
 | x :: t, h => by
   have h1 := h x (.head _)
   have h2 := lenB_le (l := t) fun y hy => h y (.tail _ hy)
   rw [lenB_cons, ali10, alj56, Nat.one_mul]; omega
structure Sfe (K : List Int) (m n : Nat) (D : Dk) : Prop where
 c : Cln D
 ok : DkOk D
 k : ∀ x ∈ D.safe, x.1 ∈ K
 ml : ∀ x ∈ D.safe, x.2.length ≤ m
 v : ∀ id, (ofS D id).2.1 ≤ n
 r : ((K.length * m : Nat) : Int) ≤ D.room
theorem getD_cln {D : Dk} (h : Cln D) (k : Int) : getD D k = (getB D.safe k).getD [] := by unfold getD; rw [h.now]
theorem stepS_ge {best : Rc} {slot : Int} {r : Int × List Int × Int} : best.2.1 ≤ (stepS best slot r).2.1 := by
 unfold stepS
 split
 ·rename_i h; simp only; omega
 ·exact alj06 _
theorem stepS_ge' {best : Rc} {slot : Int} (b : List Int) (hb : 0 ≤ best.2.1) : (rdS b).1 ≤ (stepS best slot (rdS b)).2.1 := by
 unfold stepS
 split
 ·simp only; omega
 ·rename_i h
  by_cases q : (rdS b).2.2 = 0
  ·have : ¬ (rdS b).1 > best.2.1 := fun q2 => h ⟨q, q2⟩
   omega
  ·rw [(rdS_n q).1]; exact hb
theorem ofS_ge (D : Dk) (id : Int) : (rdS (getD D (2 * id))).1 ≤ (ofS D id).2.1 ∧ (rdS (getD D (2 * id + 1))).1 ≤ (ofS D id).2.1 := by
 have h0 : (0 : Int) ≤ ((2 * id + 1, 0, []) : Rc).2.1 := alj06 0
 have h1 := stepS_ge' (best := (2 * id + 1, 0, [])) (slot := 2 * id) (getD D (2 * id)) h0
 have h2 : 0 ≤ (stepS (2 * id + 1, 0, []) (2 * id) (rdS (getD D (2 * id)))).2.1 := Int.le_trans h0 stepS_ge
 exact ⟨Int.le_trans h1 stepS_ge, stepS_ge' _ h2⟩
theorem svS_cln {D : Dk} {id : Int} {body : List Int} (hc : Cln D) (hid : 0 ≤ id ∧ id ≤ 1099511627776) (hv : (ofS D id).2.1 < 1073741824) (hb : (body.length : Int) ≤ 65536)
  (hroom : (lenB (lay D.safe (4 * id + 1 - (ofS D id).1, sealB (recB ((ofS D id).2.1 + 1) body))) : Int) ≤ D.room) :
  svS D id body = ({ D with safe := lay D.safe (4 * id + 1 - (ofS D id).1, sealB (recB ((ofS D id).2.1 + 1) body)), l := [] }, 0) := by
 have h0 := ofS_v D id
 have hw : wrS ((ofS D id).2.1 + 1) body = (sealB (recB ((ofS D id).2.1 + 1) body), 0) := by unfold wrS; rw [if_neg omm]
 have hm : mayS id = true := by unfold mayS; simp; omega
 have hp : putD D (4 * id + 1 - (ofS D id).1) (sealB (recB ((ofS D id).2.1 + 1) body)) = ({ D with l := [(4 * id + 1 - (ofS D id).1, sealB (recB ((ofS D id).2.1 + 1) body))] }, 0) := by
  unfold putD
  rw [hc.ask, if_neg smm, hc.now, if_neg omm, hc.l]; rfl
 unfold svS
 rw [if_pos hm, hw, if_neg smm, hp, if_neg smm]
 unfold syncD
 have ha : askD { D with l := [(4 * id + 1 - (ofS D id).1, sealB (recB ((ofS D id).2.1 + 1) body))] } = ({ D with l := [(4 * id + 1 - (ofS D id).1, sealB (recB ((ofS D id).2.1 + 1) body))] }, false) := by
  unfold askD
  rw [if_neg (by show ¬ 0 < D.wait; rw [hc.w]; decide), if_neg (by show ¬ 0 < D.fails; rw [hc.f]; decide)]
 simp only [ha]
 rw [if_neg smm]
 rfl
theorem sealB_rd {v : Int} {body : List Int} (hv : 1 ≤ v ∧ v ≤ 1073741824) (hb : (body.length : Int) ≤ 65536) : rdS (sealB (recB v body)) = (v, body, 0) := rd_wr hv hb
theorem Sfe.save {K : List Int} {m n : Nat} {D : Dk} (h : Sfe K m n D) {id : Int} {body : List Int} (hid : 0 ≤ id ∧ id ≤ 1099511627776) (hk1 : 2 * id ∈ K) (hk2 : 2 * id + 1 ∈ K) (hb : body.length + 9 ≤ m) (hb2 : (body.length : Int) ≤ 65536) (hn : n < 1073741824) :
  (svS D id body).2 = 0 ∧ Sfe K m (n + 1) (svS D id body).1 ∧ (svS D id body).1.room = D.room ∧ (∃ v, 0 < v ∧ ldS (svS D id body).1 id = (body, v, true)) ∧ ∀ id', id' ≠ id → ofS (svS D id body).1 id' = ofS D id' := by
 have hv := h.v id
 have hv0 := ofS_v D id
 have hsl := ofS_slot D id
 have hge := ofS_ge D id
 have hblob : (sealB (recB ((ofS D id).2.1 + 1) body)).length = body.length + 9 := by rw [sealB_len, recB_len]; omega
 have hslot : 4 * id + 1 - (ofS D id).1 ∈ K := by
  rcases hsl with e | e
  ·rw [show 4 * id + 1 - (ofS D id).1 = 2 * id + 1 by omega]; exact hk2
  ·rw [show 4 * id + 1 - (ofS D id).1 = 2 * id by omega]; exact hk1
 have hmem : ∀ x ∈ lay D.safe (4 * id + 1 - (ofS D id).1, sealB (recB ((ofS D id).2.1 + 1) body)), x = (4 * id + 1 - (ofS D id).1, sealB (recB ((ofS D id).2.1 + 1) body)) ∨ x ∈ D.safe := fun x hx => by
  rcases ali16.1 ((lay_perm _ _).mem_iff.1 hx) with e | e
  ·exact .inl e
  ·exact .inr (alj40.1 e).1
 have hK : ∀ x ∈ lay D.safe (4 * id + 1 - (ofS D id).1, sealB (recB ((ofS D id).2.1 + 1) body)), x.1 ∈ K := fun x hx => by
  rcases hmem x hx with rfl | e
  ·exact hslot
  ·exact h.k x e
 have hM : ∀ x ∈ lay D.safe (4 * id + 1 - (ofS D id).1, sealB (recB ((ofS D id).2.1 + 1) body)), x.2.length ≤ m := fun x hx => by
  rcases hmem x hx with rfl | e
  ·rw [hblob]; exact hb
  ·exact h.ml x e
 have hnd := lay_nodup (w := (4 * id + 1 - (ofS D id).1, sealB (recB ((ofS D id).2.1 + 1) body))) h.ok.nd
 have hroom : (lenB (lay D.safe (4 * id + 1 - (ofS D id).1, sealB (recB ((ofS D id).2.1 + 1) body))) : Int) ≤ D.room := by
  have h1 := lenB_le hM
  have h2 := len_keys K hnd hK
  have h3 := alj63 m h2
  have h4 := h.r
  omega
 have hsv := svS_cln h.c hid omm hb2 hroom
 have hok := h.ok.save id body
 rw [hsv] at hok ⊢
 have hget : ∀ k, getD { D with safe := lay D.safe (4 * id + 1 - (ofS D id).1, sealB (recB ((ofS D id).2.1 + 1) body)), l := [] } k = if k = 4 * id + 1 - (ofS D id).1 then sealB (recB ((ofS D id).2.1 + 1) body) else getD D k := fun k => by
  rw [getD_cln h.c]
  show ((getB (lay D.safe _) k).getD []) = _
  rw [getB_lay h.ok.nd]
  split <;> rfl
 have hrd := sealB_rd (v := (ofS D id).2.1 + 1) (body := body) omm hb2
 have hcl : Cln ({ D with safe := lay D.safe (4 * id + 1 - (ofS D id).1, sealB (recB ((ofS D id).2.1 + 1) body)), l := [] } : Dk) := ⟨rfl, h.c.f, h.c.w⟩
 have hrm : ({ D with safe := lay D.safe (4 * id + 1 - (ofS D id).1, sealB (recB ((ofS D id).2.1 + 1) body)), l := [] } : Dk).room = D.room := rfl
 have hK' : ∀ x ∈ ({ D with safe := lay D.safe (4 * id + 1 - (ofS D id).1, sealB (recB ((ofS D id).2.1 + 1) body)), l := [] } : Dk).safe, x.1 ∈ K ∧ x.2.length ≤ m := fun x hx => ⟨hK x hx, hM x hx⟩
 generalize ({ D with safe := lay D.safe (4 * id + 1 - (ofS D id).1, sealB (recB ((ofS D id).2.1 + 1) body)), l := [] } : Dk) = D' at *
 have oe : ∀ (D : Dk) (id : Int), ofS D id = stepS (stepS (2 * id + 1, 0, []) (2 * id) (rdS (getD D (2 * id)))) (2 * id + 1) (rdS (getD D (2 * id + 1))) := fun _ _ => rfl
 have hother : ∀ id', id' ≠ id → ofS D' id' = ofS D id' := fun id' hne => by
  rw [oe D' id', oe D id', hget, hget, if_neg omm, if_neg omm]
 have hown : ofS D' id = (4 * id + 1 - (ofS D id).1, (ofS D id).2.1 + 1, body) := by
  rw [oe D' id, hget, hget]
  generalize ofS D id = s at *
  rcases hsl with e | e
  ·rw [if_neg omm, if_pos omm, hrd]
   have hs1 : (stepS (2 * id + 1, 0, []) (2 * id) (rdS (getD D (2 * id)))).2.1 ≤ s.2.1 := by
    unfold stepS
    split
    ·exact hge.1
    ·exact hv0.1
   generalize stepS (2 * id + 1, 0, []) (2 * id) (rdS (getD D (2 * id))) = b at *
   unfold stepS
   rw [if_pos ⟨rfl, by simp only; omega⟩]
   simp only
   rw [show 4 * id + 1 - s.1 = 2 * id + 1 by omega]
  ·rw [if_pos omm, hrd, if_neg omm]
   have e1 : stepS (2 * id + 1, 0, []) (2 * id) (s.2.1 + 1, body, 0) = (2 * id, s.2.1 + 1, body) := by
    unfold stepS
    rw [if_pos ⟨rfl, by simp only; omega⟩]
   rw [e1]
   unfold stepS
   rw [if_neg (by simp only; omega), show 4 * id + 1 - s.1 = 2 * id by omega]
 refine ⟨rfl, ⟨hcl, hok, fun x hx => (hK' x hx).1, fun x hx => (hK' x hx).2, fun id' => ?_, by rw [hrm]; exact h.r⟩, hrm, ⟨(ofS D id).2.1 + 1, by omega, ?_⟩, hother⟩
 ·by_cases q : id' = id
  ·rw [q, hown]; simp only; omega
  ·rw [hother id' q]
   have := h.v id'
   omega
 ·unfold ldS
  have hm : mayS id = true := by unfold mayS; simp; omega
  rw [if_pos hm, hown]
  simp only [Prod.mk.injEq, true_and]
  simp; omega
theorem ldS_of {D D' : Dk} {id : Int} (h : ofS D' id = ofS D id) : ldS D' id = ldS D id := by unfold ldS; rw [h]
theorem Sfe.new {K : List Int} {m : Nat} {room : Int} (h : ((K.length * m : Nat) : Int) ≤ min (max room 0) 1048576) : Sfe K m 0 ⟨min (max room 0) 1048576, 0, 0, [], []⟩ := by
 refine ⟨⟨rfl, rfl, rfl⟩, ⟨List.nodup_nil, fun k => by simp [lenB]; omega, by simp, by simp, by simp only; omega⟩, (fun x hx => by cases hx), (fun x hx => by cases hx), fun id => ?_, h⟩
 exact alj06 0
theorem ldS_new {room id : Int} : ldS ⟨room, 0, 0, [], []⟩ id = ([], 0, false) := by
 unfold ldS
 split <;> rfl
end Go.Chk
namespace Go.Que
open Go Go.Vc
abbrev Cl := Int × Int × Int
abbrev It := Int × Cl
def cv (c : Cl) : Value := .agg #[c.1, c.2.1, c.2.2]
def tv (t : Int) : Value := .int .i64 t
abbrev clv (c : Cl) : LV := [.int .i64 c.1, .int .i64 c.2.1, .int .i64 c.2.2]
abbrev itv (x : It) : LV := [.int .i64 x.1, .int .i64 x.2.1, .int .i64 x.2.2.1, .int .i64 x.2.2.2]
theorem cv_inj {a b : Cl} (h : cv a = cv b) : a = b := by
 unfold cv at h
 obtain ⟨a1, a2, a3⟩ := a
 obtain ⟨b1, b2, b3⟩ := b
 simp at h
 obtain ⟨rfl, rfl, rfl⟩ := h
 rfl
structure QS where
 room : Int
 lost : Int
 l : List It
def qdrop (l : List It) (c : Cl) : List It := l.filter fun x => x.2 != c
def qins (l : List It) (x : It) : List It := l.takeWhile (fun y => y.1 ≤ x.1) ++ x :: l.dropWhile (fun y => y.1 ≤ x.1)
def qtick (l : List It) (c : Cl) : Option Int := (l.find? fun x => x.2 == c).map (·.1)
def qadd (q : QS) (c : Cl) (t : Int) : QS × Bool :=
 match qtick q.l c with
 | some was => if was ≤ t then (q, false) else ({ q with l := qins (qdrop q.l c) (t, c) }, true)
 | none => if (q.l.length : Int) ≥ q.room then ({ q with lost := q.lost + 1 }, false) else ({ q with l := qins q.l (t, c) }, true)
structure QOk (q : QS) : Prop where
 room : 1 ≤ q.room ∧ q.room ≤ 4096
 len : (q.l.length : Int) ≤ q.room
 sorted : q.l.Pairwise fun a b => a.1 ≤ b.1
 nodup : (q.l.map (·.2)).Nodup
theorem qdrop_sub (l : List It) (c : Cl) : (qdrop l c).Sublist l := List.filter_sublist
theorem qtick_some {l : List It} {c : Cl} {t : Int} (h : qtick l c = some t) : (t, c) ∈ l := by
 unfold qtick at h
 cases hf : l.find? (fun x => x.2 == c) with
 | none => rw [hf] at h; cases h
 | some x =>
   rw [hf] at h
   have h1 := List.find?_some hf
   have h2 := alj42 hf
   obtain ⟨a, b⟩ := x
   simp at h h1
   subst h; subst h1; exact h2
theorem qtick_none {l : List It} {c : Cl} (h : qtick l c = none) : ∀ x ∈ l, x.2 ≠ c := by
 unfold qtick at h
 rw [Option.map_eq_none_iff, alj20] at h
 intro x hx e
 exact h x hx (by simp [e])
theorem sorted_le {l : List It} (h : l.Pairwise fun a b => a.1 ≤ b.1) (t : Int) : (∀ y ∈ l.takeWhile (fun y => y.1 ≤ t), y.1 ≤ t) ∧ (∀ y ∈ l.dropWhile (fun y => y.1 ≤ t), t < y.1) := by
 induction l with
 | nil => simp
 | cons a l ih =>
   rw [List.pairwise_cons] at h
   by_cases ha : a.1 ≤ t
   ·rw [List.takeWhile_cons_of_pos (by simpa using ha), List.dropWhile_cons_of_pos (by simpa using ha)]
    obtain ⟨i1, i2⟩ := ih h.2
    refine ⟨fun y hy => ?_, i2⟩
    rcases ali16.1 hy with rfl | hy
    ·exact ha
    ·exact i1 y hy
   ·rw [List.takeWhile_cons_of_neg (by simpa using ha), List.dropWhile_cons_of_neg (by simpa using ha)]
    refine ⟨by simp, fun y hy => ?_⟩
    rcases ali16.1 hy with rfl | hy
    ·omega
    ·have := h.1 y hy; omega
theorem takeWhile_at {l : List It} (h : l.Pairwise fun a b => a.1 ≤ b.1) (t : Int) {i : Nat} {y : It} (hi : l[i]? = some y) : i < (l.takeWhile (fun y => y.1 ≤ t)).length ↔ y.1 ≤ t := by
 have hs := sorted_le h t
 have e := alj51 (p := fun y : It => decide (y.1 ≤ t)) (l := l)
 constructor
 ·intro hlt
  rw [← e, ali18 hlt] at hi
  exact hs.1 y (ali00 hi)
 ·intro hle
  rcases alj62 i (l.takeWhile (fun y => y.1 ≤ t)).length with hlt | hge
  ·exact hlt
  ·rw [← e, ali19 hge] at hi
   have := hs.2 y (ali00 hi)
   omega
theorem qins_eq (l : List It) (x : It) : l.take (l.takeWhile fun y => decide (y.1 ≤ x.1)).length ++ x :: l.drop (l.takeWhile fun y => decide (y.1 ≤ x.1)).length = qins l x := by
 have h : ∀ (a b l : List It), a ++ b = l → l.take a.length ++ x :: l.drop a.length = a ++ x :: b := by rintro a b _ rfl; simp
 exact h _ _ _ (alj51 (p := fun y : It => decide (y.1 ≤ x.1)) (l := l))
theorem qins_len (l : List It) (x : It) : (qins l x).length = l.length + 1 := by
 have e := congrArg List.length (alj51 (p := fun y : It => decide (y.1 ≤ x.1)) (l := l))
 unfold qins
 simp only [ali07, ali10] at e ⊢
 omega
theorem qins_mem (l : List It) (x y : It) : y ∈ qins l x ↔ y = x ∨ y ∈ l := by
 unfold qins
 conv => rhs; rw [← alj51 (p := fun y : It => decide (y.1 ≤ x.1)) (l := l)]
 simp only [ali25, ali16]
 constructor
 ·rintro (h | h | h)
  ·exact .inr (.inl h)
  ·exact .inl h
  ·exact .inr (.inr h)
 ·rintro (h | h | h)
  ·exact .inr (.inl h)
  ·exact .inl h
  ·exact .inr (.inr h)
theorem qins_sorted {l : List It} (h : l.Pairwise fun a b => a.1 ≤ b.1) (x : It) : (qins l x).Pairwise fun a b => a.1 ≤ b.1 := by
 have hs := sorted_le h x.1
 have e := alj51 (p := fun y : It => decide (y.1 ≤ x.1)) (l := l)
 unfold qins
 rw [← e, List.pairwise_append] at h
 rw [List.pairwise_append]
 refine ⟨h.1, List.pairwise_cons.2 ⟨fun y hy => by have := hs.2 y hy; omega, h.2.1⟩, fun a ha b hb => ?_⟩
 rcases ali16.1 hb with rfl | hb
 ·exact hs.1 a ha
 ·exact h.2.2 a ha b hb
theorem qins_nodup {l : List It} (h : (l.map (·.2)).Nodup) {x : It} (hx : ∀ y ∈ l, y.2 ≠ x.2) : ((qins l x).map (·.2)).Nodup := by
 have e := alj51 (p := fun y : It => decide (y.1 ≤ x.1)) (l := l)
 unfold qins
 have hx' : ∀ y ∈ l.takeWhile (fun y => y.1 ≤ x.1) ++ l.dropWhile (fun y => y.1 ≤ x.1), y.2 ≠ x.2 := by rw [e]; exact hx
 rw [← e, ali08, alj47] at h
 rw [ali08, ali17, alj47]
 refine ⟨h.1, alj48.2 ⟨fun hm => ?_, h.2.1⟩, fun a ha b hb => ?_⟩
 ·obtain ⟨y, hy, e⟩ := ali06.1 hm
  exact hx' y (alj38 _ hy) e
 ·rcases ali16.1 hb with rfl | hb
  ·obtain ⟨y, hy, rfl⟩ := ali06.1 ha
   exact hx' y (alj37 _ hy)
  ·exact h.2.2 a ha b hb
theorem QOk.add {q : QS} (h : QOk q) (c : Cl) (t : Int) : QOk (qadd q c t).1 := by
 unfold qadd
 split
 ·rename_i was hw
  split
  ·exact h
  ·have hsub := qdrop_sub q.l c
   have hlt : (qdrop q.l c).length < q.l.length := by
    have hm := qtick_some hw
    have : (qdrop q.l c).length ≠ q.l.length := fun e => by
     have := hsub.eq_of_length e
     rw [← this] at hm
     unfold qdrop at hm
     simp at hm
    have := hsub.length_le
    omega
   have := h.len
   exact ⟨h.room, by rw [qins_len]; show ((_ : Nat) : Int) ≤ q.room; omega, qins_sorted (h.sorted.sublist hsub) _, qins_nodup ((hsub.map _).nodup h.nodup) (fun y hy => by
    unfold qdrop at hy
    simp at hy
    exact hy.2)⟩
 ·rename_i hn
  split
  ·exact ⟨h.room, h.len, h.sorted, h.nodup⟩
  ·exact ⟨h.room, by rw [qins_len]; show ((_ : Nat) : Int) ≤ q.room; omega, qins_sorted h.sorted _, qins_nodup h.nodup (qtick_none hn)⟩
theorem QOk.drop {q : QS} (h : QOk q) (c : Cl) : QOk { q with l := qdrop q.l c } := by
 have hsub := qdrop_sub q.l c
 have := hsub.length_le
 have := h.len
 exact ⟨h.room, by show ((qdrop q.l c).length : Int) ≤ q.room; omega, h.sorted.sublist hsub, (hsub.map _).nodup h.nodup⟩
theorem qadd_lost (q : QS) (c : Cl) (t : Int) : q.lost ≤ (qadd q c t).1.lost ∧ (qadd q c t).1.lost ≤ q.lost + 1 := by
 unfold qadd
 split
 ·split <;> exact ⟨alj06 _, by show q.lost ≤ q.lost + 1; omega⟩
 ·split
  ·exact ⟨by show q.lost ≤ q.lost + 1; omega, alj06 _⟩
  ·exact ⟨alj06 _, by show q.lost ≤ q.lost + 1; omega⟩
def qput (q : QS) : List It → QS × Nat
 | [] => (q, 0)
 | x :: l => ((qput (qadd q x.2 x.1).1 l).1, (if (qadd q x.2 x.1).2 then 1 else 0) + (qput (qadd q x.2 x.1).1 l).2)
end Go.Que
namespace Go.Que
end Go.Que
namespace Go.Que
open Go Go.Vc
theorem qadd_new {q : QS} {c : Cl} {t : Int} (hn : ∀ x ∈ q.l, x.2 ≠ c) (hr : (q.l.length : Int) < q.room) : qadd q c t = ({ q with l := qins q.l (t, c) }, true) := by
 have hq : qtick q.l c = none := by
  cases h : qtick q.l c with
  | none => rfl
  | some t => exact absurd rfl (hn _ (qtick_some h))
 unfold qadd
 rw [hq]
 simp only
 rw [if_neg omm]
end Go.Que
namespace Go.Flw
open Go Go.Vc Go.Chk Go.Que
abbrev Cg := Ce × Int
def wetK (b : Int) : Bool := decide (8 ≤ b) && decide (b < 16)
def delayK (b : Int) : Int := if b = 3 then 2 else if wetK b then 5 else 0
def lowK (c : Ce) : Ce := (c.1, c.2.1 - 1, c.2.2)
def overK (c : Ce) : Ce := (c.1, c.2.1 + 1, c.2.2)
def nbK (c : Ce) : List Ce := [(c.1 - 1, c.2.1, c.2.2), (c.1 + 1, c.2.1, c.2.2), lowK c, overK c, (c.1, c.2.1, c.2.2 - 1), (c.1, c.2.1, c.2.2 + 1)]
def wakesK (V : Ce → Int) (c : Ce) : List Ce := (c :: nbK c).filter fun n => decide (0 < delayK (V n))
def wakeQ (V : Ce → Int) (now : Int) (q : QS) (c : Ce) : QS := (wakesK V c).foldl (fun q n => (qadd q n (now + delayK (V n))).1) q
end Go.Flw
namespace Go.Eng
open Go Go.Vc Go.Chk
abbrev Bx := Ce × Ce
def cutF (n : Int) : Int := min (max n (-140737488355328)) 140737488355328
def addF (a b : Int) : Int := cutF (cutF a + cutF b)
def subF (a b : Int) : Int := cutF (cutF a - cutF b)
def ofF (n : Int) : Int := min (max n (-2147483648)) 2147483648 * 65536
theorem cutF_in (n : Int) : -140737488355328 ≤ cutF n ∧ cutF n ≤ 140737488355328 := by unfold cutF; omega
def axK (v : Ce) (i : Int) : Int := if i = 0 then v.1 else if i = 1 then v.2.1 else if i = 2 then v.2.2 else 0
def mapV (f : Int → Int → Int) (v : Ce) : Ce := (f 0 v.1, f 1 v.2.1, f 2 v.2.2)
def addV (a b : Ce) : Ce := mapV (fun i n => addF n (axK b i)) a
def subV (a b : Ce) : Ce := mapV (fun i n => subF n (axK b i)) a
def standK (foot : Ce) (w h : Int) : Bx := (subV foot (max w 0 / 2, 0, max w 0 / 2), addV foot (max w 0 / 2, max h 0, max w 0 / 2))
end Go.Eng
namespace Go.Eng
open Go Go.Vc Go.Chk
end Go.Eng
namespace Go.Eng
open Go Go.Vc Go.Chk
def nearV (a : Ce) (m : Int) : Prop := (-m ≤ a.1 ∧ a.1 ≤ m) ∧ (-m ≤ a.2.1 ∧ a.2.1 ≤ m) ∧ -m ≤ a.2.2 ∧ a.2.2 ≤ m
end Go.Eng
namespace Go.Lin
open Go Go.Vc
abbrev by' (s : ByteArray) (i : Nat) : Nat := (s.get! i).toNat
theorem dec_ok (s : ByteArray) (i : Nat) (h : i < s.size) : 1 ≤ (Utf8.decode s i).2 ∧ i + (Utf8.decode s i).2 ≤ s.size ∧
  ((by' s i < 128 → Utf8.decode s i = (by' s i, 1)) ∧ (128 ≤ by' s i → 128 ≤ (Utf8.decode s i).1)) ∧ ∀ j, 0 < j → j < (Utf8.decode s i).2 → 128 ≤ by' s (i + j) := by
 unfold by'
 have h0 : s.get! (i + 0) = s.get! i := rfl
 unfold Utf8.decode
 simp only [h0]
 generalize hb : (s.get! i).toNat = b0
 by_cases c1 : b0 < 128
 ·rw [if_pos c1]
  exact ⟨ali34 _, by simp only; omega, ⟨fun _ => rfl, fun q => by omega⟩, fun j h1 h2 => by simp only at h2; omega⟩
 ·rw [if_neg c1]
  have one : 1 ≤ ((Utf8.runeError, 1) : Nat × Nat).2 ∧ i + ((Utf8.runeError, 1) : Nat × Nat).2 ≤ s.size ∧ ((b0 < 128 → ((Utf8.runeError, 1) : Nat × Nat) = (b0, 1)) ∧ (128 ≤ b0 → 128 ≤ ((Utf8.runeError, 1) : Nat × Nat).1)) ∧ ∀ j, 0 < j → j < ((Utf8.runeError, 1) : Nat × Nat).2 → 128 ≤ (s.get! (i + j)).toNat :=
   ⟨ali34 _, by simp only; omega, ⟨fun q => absurd q c1, fun _ => by decide⟩, fun j h1 h2 => by simp only at h2; omega⟩
  split
  ·rename_i c2
   simp only [ali39, ali27, beq_iff_eq] at c2
   split
   ·rename_i c3
    exact ⟨by simp only; omega, by simp only; omega, ⟨fun q => absurd q c1, fun _ => by simp only; omega⟩, fun j h1 h2 => by
     simp only at h2
     have : j = 1 := by omega
     subst this; omega⟩
   ·exact one
  ·split
   ·rename_i c2
    simp only [ali39, ali27, beq_iff_eq] at c2
    split
    ·rename_i c3
     simp only [ali39, ali27, ge_iff_le] at c3
     exact ⟨by simp only; omega, by simp only; omega, ⟨fun q => absurd q c1, fun _ => by simp only; omega⟩, fun j h1 h2 => by
      simp only at h2
      have : j = 1 ∨ j = 2 := by omega
      rcases this with rfl | rfl <;> omega⟩
    ·exact one
   ·split
    ·rename_i c2
     simp only [ali39, ali27, beq_iff_eq] at c2
     split
     ·rename_i c3
      simp only [ali39, ali27, ge_iff_le] at c3
      exact ⟨by simp only; omega, by simp only; omega, ⟨fun q => absurd q c1, fun _ => by simp only; omega⟩, fun j h1 h2 => by
       simp only at h2
       have : j = 1 ∨ j = 2 ∨ j = 3 := by omega
       rcases this with rfl | rfl | rfl <;> omega⟩
     ·exact one
    ·exact one
def bstep (s : ByteArray) (i : Nat) (x : Option Nat × List (Nat × Nat)) : Option Nat × List (Nat × Nat) :=
 if by' s i = 32 then (match x.1 with | some a => (none, x.2 ++ [(a, i)]) | none => (none, x.2)) else (some (x.1.getD i), x.2)
def bst (s : ByteArray) : Nat → Option Nat × List (Nat × Nat)
 | 0 => (none, [])
 | i + 1 => bstep s i (bst s i)
theorem bst_run (s : ByteArray) (i a : Nat) (h : (bst s i).1 = some a) : ∀ k, (∀ j, j < k → by' s (i + j) ≠ 32) → bst s (i + k) = bst s i
 | 0, _ => rfl
 | k + 1, hk => by
   have ih := bst_run s i a h k fun j hj => hk j omm
   show bstep s (i + k) (bst s (i + k)) = _
   rw [ih]
   unfold bstep
   rw [if_neg (hk k omm), h]
   exact Prod.ext h.symm rfl
def sp32 (r : Nat) : Bool := r == 32
theorem spans_bst (s : ByteArray) : ∀ (f pos : Nat) (st : Option Nat) (acc : List (Nat × Nat)), pos ≤ s.size → s.size - pos ≤ f → bst s pos = (st, acc) → Lib.spansFromP sp32 s f pos st acc = ((bst s s.size).2, (bst s s.size).1)
 | 0, pos, st, acc, h1, h2, h3 => by
   have : pos = s.size := by omega
   subst this
   rw [h3]; rfl
 | f + 1, pos, st, acc, h1, h2, h3 => by
   unfold Lib.spansFromP
   by_cases hp : pos < s.size
   ·rw [if_pos hp]
    obtain ⟨d1, d2, ⟨d3, d4⟩, d5⟩ := dec_ok s pos hp
    have hb : bst s (pos + 1) = bstep s pos (st, acc) := by
     show bstep s pos (bst s pos) = _
     rw [h3]
    unfold bstep at hb
    by_cases c : by' s pos < 128
    ·rw [d3 c]
     simp only
     by_cases c2 : by' s pos = 32
     ·rw [if_pos (by unfold sp32; rw [c2]; rfl)]
      rw [if_pos c2] at hb
      cases st with
      | some a => exact spans_bst s f _ _ _ omm omm hb
      | none => exact spans_bst s f _ _ _ omm omm hb
     ·rw [if_neg (by unfold sp32; simpa using c2)]
      rw [if_neg c2] at hb
      cases st with
      | some a => exact spans_bst s f _ _ _ omm omm hb
      | none => exact spans_bst s f _ _ _ omm omm hb
    ·have hc := d4 omm
     rw [if_neg (by unfold sp32; simp; omega)]
     rw [if_neg omm] at hb
     have hr := bst_run s (pos + 1) _ (by rw [hb]) ((Utf8.decode s pos).2 - 1) fun j hj => by
      have := d5 (j + 1) omm omm
      rw [show pos + 1 + j = pos + (j + 1) by omega]
      omega
     rw [show pos + 1 + ((Utf8.decode s pos).2 - 1) = pos + (Utf8.decode s pos).2 by omega, hb] at hr
     cases st with
     | some a => exact spans_bst s f _ _ _ omm omm hr
     | none => exact spans_bst s f _ _ _ omm omm hr
   ·rw [if_neg hp]
    have : pos = s.size := by omega
    subst this
    rw [h3]
def wordsK (s : ByteArray) : List ByteArray := Lib.goFieldsP sp32 s
def outK (s : ByteArray) (i : Nat) : List ByteArray := (bst s i).2.map fun x => s.extract x.1 x.2
def ownK (s : ByteArray) (i : Nat) : ByteArray := match (bst s i).1 with | some a => s.extract a i | none => ByteArray.empty
theorem words_eq (s : ByteArray) : wordsK s = outK s s.size ++ (match (bst s s.size).1 with | some a => [s.extract a s.size] | none => []) := by
 unfold wordsK Lib.goFieldsP Lib.spansOfP outK
 rw [spans_bst s s.size 0 none [] (alj66 _) omm rfl]
 unfold Lib.closeSpans
 cases (bst s s.size).1 with
 | some a => simp
 | none => simp
theorem bst_lt (s : ByteArray) : ∀ (i : Nat) {a : Nat}, (bst s i).1 = some a → a < i
 | 0, a, h => by cases h
 | i + 1, a, h => by
   have h : (bstep s i (bst s i)).1 = some a := h
   unfold bstep at h
   split at h
   ·split at h <;> cases h
   ·simp only [Option.some.injEq] at h
    cases hq : (bst s i).1 with
    | none => rw [hq] at h; simp at h; omega
    | some b => rw [hq] at h; simp at h; have := bst_lt s i hq; omega
end Go.Lin
namespace Go.Lin
open Go Go.Vc
abbrev bl (s : ByteArray) : List UInt8 := s.data.toList
theorem bl_app (x y : ByteArray) : bl (x ++ y) = bl x ++ bl y := by simp [bl, ByteArray.data_append]
theorem bl_len (s : ByteArray) : (bl s).length = s.size := by simp [bl]
theorem by_bl (s : ByteArray) (i : Nat) : by' s i = ((bl s).getD i 0).toNat := by
 unfold by' bl
 congr 1
 rw [ali05, Array.getElem?_toList]
 show s.data[i]! = _
 rw [Array.getElem!_eq_getD, Array.getD_eq_getD_getElem?]
 rfl
def dstep (o : Option Int) (b : UInt8) : Option Int := o.bind fun n => if 48 ≤ b.toNat ∧ b.toNat ≤ 57 then some (n * 10 + (b.toNat : Int) - 48) else none
def digV (l : List UInt8) : Option Int := l.foldl dstep (some 0)
theorem digV_snoc (l : List UInt8) (b : UInt8) : digV (l ++ [b]) = dstep (digV l) b := by unfold digV; rw [alj22]; rfl
theorem dig_none : ∀ (l : List UInt8), l.foldl dstep none = none
 | [] => rfl
 | b :: l => dig_none l
theorem digV_app_none {l : List UInt8} (h : digV l = none) (m : List UInt8) : digV (l ++ m) = none := by
 unfold digV at *
 rw [alj22, h]
 exact dig_none m
theorem digV_bd : ∀ (k : Nat) {l : List UInt8}, l.length = k → ∀ {n : Int}, digV l = some n → 0 ≤ n ∧ n < 10 ^ k
 | 0, l, h, n, hn => by
   have : l = [] := alj31.1 h
   subst this
   cases hn
   decide
 | k + 1, l, h, n, hn => by
   rcases List.eq_nil_or_concat l with rfl | ⟨m, b, rfl⟩
   ·simp at h
   ·rw [List.concat_eq_append] at hn h
    rw [digV_snoc] at hn
    have hm : m.length = k := by simpa using h
    unfold dstep at hn
    cases hq : digV m with
    | none => rw [hq] at hn; cases hn
    | some x =>
      rw [hq] at hn
      obtain ⟨b1, b2⟩ := digV_bd k hm hq
      simp only [Option.bind_some] at hn
      split at hn
      ·rename_i hb
       cases hn
       rw [Int.pow_succ]
       omega
      ·cases hn
def dgs (l : List UInt8) : List UInt8 := if l.head? = some 45 then l.drop 1 else l
def numL (l : List UInt8) : Int × Bool :=
 if (dgs l).length < 1 ∨ 15 < (dgs l).length then (0, false) else match digV (dgs l) with
  | none => (0, false)
  | some n => (if l.head? = some 45 then -n else n, true)
def numK (s : ByteArray) : Int × Bool := numL (bl s)
def dig1 (n : Int) : UInt8 := UInt8.ofNat (48 + (n.tmod 10).natAbs)
def decL : Nat → Int → List UInt8
 | 0, _ => []
 | f + 1, n => if -10 < n ∧ n < 10 then (if n < 0 then [45, dig1 n] else [dig1 n]) else decL f (n.tdiv 10) ++ [dig1 n]
theorem dig1_nat (n : Int) : (dig1 n).toNat = 48 + (n.tmod 10).natAbs ∧ (n.tmod 10).natAbs ≤ 9 := by
 have h1 : (n.tmod 10).natAbs ≤ 9 := by
  have := Int.tmod_lt_of_pos n (b := 10) dcc
  have := Int.lt_tmod_of_pos n (b := 10) dcc
  omega
 refine ⟨?_, h1⟩
 unfold dig1
 rw [UInt8.toNat_ofNat']
 omega
theorem dstep_dig (x n : Int) : dstep (some x) (dig1 n) = some (x * 10 + (n.tmod 10).natAbs) := by
 obtain ⟨h1, h2⟩ := dig1_nat n
 unfold dstep
 simp only [Option.bind_some, h1]
 rw [if_pos omm]
 congr 1
 omega
def decN : Nat → Nat → List UInt8
 | 0, _ => []
 | f + 1, n => if n < 10 then [dig1 n] else decN f (n / 10) ++ [dig1 n]
theorem tm_abs (n : Int) : (n.tmod 10).natAbs = n.natAbs % 10 := by rw [Int.natAbs_tmod]; rfl
theorem td_abs (n : Int) : (n.tdiv 10).natAbs = n.natAbs / 10 := by rw [Int.natAbs_tdiv]; rfl
theorem dig1_abs (n : Int) : dig1 n = dig1 (n.natAbs : Int) := by unfold dig1; rw [tm_abs, tm_abs]; rfl
theorem dec_eq : ∀ (f : Nat) (n : Int), n.natAbs < 10 ^ f → decL f n = (if n < 0 then [45] else []) ++ decN f n.natAbs
 | 0, n, h => by
   have : n = 0 := by simpa using h
   subst this
   rfl
 | f + 1, n, h => by
   unfold decL decN
   by_cases hs : -10 < n ∧ n < 10
   ·have hn : n.natAbs < 10 := by omega
    rw [if_pos hs, if_pos hn]
    split
    ·rw [dig1_abs]; rfl
    ·rw [dig1_abs]; rfl
   ·have hn : ¬ n.natAbs < 10 := by omega
    rw [if_neg hs, if_neg hn, dec_eq f (n.tdiv 10) (by rw [td_abs]; rw [Nat.pow_succ] at h; omega), td_abs, ← dig1_abs, ali15]
    congr 1
    have : n.tdiv 10 < 0 ↔ n < 0 := by
     have q1 := Int.mul_tdiv_add_tmod n 10
     have q2 := Int.tmod_lt_of_pos n (b := 10) dcc
     have q3 := Int.lt_tmod_of_pos n (b := 10) dcc
     omega
    simp only [this]
theorem decN_ne : ∀ (f n : Nat), 0 < f → decN f n ≠ []
 | 0, _, h => absurd h (alj59 _)
 | f + 1, n, _ => by
   unfold decN
   split <;> simp
theorem decN_len : ∀ (f n : Nat), (decN f n).length ≤ f
 | 0, _ => ali34 _
 | f + 1, n => by
   unfold decN
   split
   ·simp
   ·have := decN_len f (n / 10)
    simp
    exact this
theorem decN_val : ∀ (f n : Nat), n < 10 ^ f → digV (decN f n) = some (n : Int)
 | 0, n, h => by
   have : n = 0 := by simpa using h
   subst this
   rfl
 | f + 1, n, h => by
   unfold decN
   have ht : ((n : Int).tmod 10).natAbs = n % 10 := tm_abs n
   split
   ·rename_i hn
    show dstep (some 0) (dig1 n) = _
    rw [dstep_dig, ht]
    congr 1
    omega
   ·rw [digV_snoc, decN_val f (n / 10) (by rw [Nat.pow_succ] at h; omega), dstep_dig, ht]
    congr 1
    omega
theorem decN_head (f n : Nat) : (decN f n).head? ≠ some 45 := by
 induction f generalizing n with
 | zero => simp [decN]
 | succ f ih =>
   unfold decN
   split
   ·have := dig1_nat n
    intro q
    simp at q
    rw [q] at this
    have h := this.1
    simp at h
    omega
   ·rw [List.head?_append]
    intro q
    cases hq : (decN f (n / 10)).head? with
    | some x => rw [hq] at q; simp at q; subst q; exact ih _ hq
    | none =>
      rw [hq] at q
      simp at q
      have := dig1_nat n
      rw [q] at this
      have h := this.1
      simp at h
      omega
theorem num_dec {n : Int} (h : n.natAbs < 10 ^ 15) : numL (decL 15 n) = (n, true) := by
 rw [dec_eq 15 n h]
 have h1 := decN_val 15 n.natAbs h
 have h2 := decN_head 15 n.natAbs
 have h3 := decN_len 15 n.natAbs
 have h4 := decN_ne 15 n.natAbs dcc
 have h5 : 1 ≤ (decN 15 n.natAbs).length := by
  cases hq : decN 15 n.natAbs with
  | nil => exact absurd hq h4
  | cons a l => simp
 generalize decN 15 n.natAbs = l at *
 by_cases hn : n < 0
 ·rw [if_pos hn]
  have hd : dgs ([45] ++ l) = l := rfl
  unfold numL
  rw [hd, if_neg omm, h1]
  simp only [List.singleton_append, List.head?_cons, if_true]
  congr 1
  omega
 ·rw [if_neg hn, ali45]
  have hd : dgs l = l := by unfold dgs; rw [if_neg h2]
  unfold numL
  rw [hd, if_neg omm, h1]
  simp only [if_neg h2]
  congr 1
  omega
end Go.Lin
namespace Go.Lin
open Go Go.Vc
def wgo : List UInt8 → List UInt8 → List (List UInt8)
 | cur, [] => if cur = [] then [] else [cur]
 | cur, c :: r => if c = 32 then (if cur = [] then [] else [cur]) ++ wgo [] r else wgo (cur ++ [c]) r
def wordsL (l : List UInt8) : List (List UInt8) := wgo [] l
theorem wgo_word : ∀ (w cur l : List UInt8), (∀ c ∈ w, c ≠ 32) → wgo cur (w ++ l) = wgo (cur ++ w) l
 | [], cur, l, _ => by rw [ali44]; rfl
 | c :: w, cur, l, h => by
   show wgo cur (c :: (w ++ l)) = _
   rw [wgo, if_neg (h c smm), wgo_word w (cur ++ [c]) l fun x hx => h x (by simp [hx])]
   simp
theorem words_word {w : List UInt8} (l : List UInt8) (h0 : w ≠ []) (h : ∀ c ∈ w, c ≠ 32) : wordsL (w ++ 32 :: l) = w :: wordsL l := by
 unfold wordsL
 rw [wgo_word w [] _ h, ali45, wgo, if_pos rfl, if_neg h0]
 rfl
theorem words_last {w : List UInt8} (h0 : w ≠ []) (h : ∀ c ∈ w, c ≠ 32) : wordsL w = [w] := by
 have := wgo_word w [] [] h
 rw [ali44] at this
 unfold wordsL
 rw [this, ali45, wgo, if_neg h0]
theorem own_ne {s : ByteArray} {i a : Nat} (hi : i ≤ s.size) (h : (bst s i).1 = some a) : bl (s.extract a i) ≠ [] := by
 have := bst_lt s i h
 intro q
 have e := congrArg List.length q
 rw [bl_len, ByteArray.size_extract] at e
 simp at e
 omega
theorem own_eq (s : ByteArray) (i : Nat) (hi : i ≤ s.size) : (if bl (ownK s i) = [] then ([] : List (List UInt8)) else [bl (ownK s i)]) = (match (bst s i).1 with | some a => [bl (s.extract a i)] | none => []) := by
 unfold ownK
 cases h : (bst s i).1 with
 | none => simp [bl]
 | some a => simp only [if_neg (own_ne hi h)]
theorem bl_ext' (s : ByteArray) (i j : Nat) : bl (s.extract i j) = ((bl s).drop i).take (j - i) := by
 simp [bl, ByteArray.data_extract, List.extract_eq_take_drop]
theorem ext_next (s : ByteArray) {a i : Nat} (h : a ≤ i) {c : UInt8} (hc : (bl s)[i]? = some c) : bl (s.extract a (i + 1)) = bl (s.extract a i) ++ [c] := by
 rw [bl_ext', bl_ext', show i + 1 - a = (i - a) + 1 by omega, ali09, alj24, show a + (i - a) = i by omega, hc]
 rfl
theorem words_go (s : ByteArray) : ∀ i : Nat, i ≤ s.size → wordsL (bl s) = (outK s i).map bl ++ wgo (bl (ownK s i)) ((bl s).drop i)
 | 0, _ => rfl
 | i + 1, hi => by
   have ih := words_go s i omm
   obtain ⟨c, hc⟩ : ∃ c, (bl s)[i]? = some c := ⟨_, ali04 (by rw [bl_len]; omega)⟩
   have hd : (bl s).drop i = c :: (bl s).drop (i + 1) := by
    have hl : i < (bl s).length := by rw [bl_len]; omega
    rw [alj11 hl]
    rw [ali04 hl] at hc
    rw [Option.some.inj hc]
   have hb : by' s i = c.toNat := by
    have hl : i < s.data.size := hi
    have : s.get! i = c := by
     show s.data[i]! = c
     rw [getElem!_pos s.data i hl]
     rw [Array.getElem?_toList, Array.getElem?_eq_getElem hl] at hc
     exact Option.some.inj hc
    unfold by'
    rw [this]
   have hst : bst s (i + 1) = bstep s i (bst s i) := rfl
   rw [ih, hd, wgo]
   by_cases h32 : c = 32
   ·have hb32 : by' s i = 32 := by rw [hb, h32]; rfl
    unfold bstep at hst
    rw [if_pos hb32] at hst
    rw [if_pos h32, own_eq s i omm]
    cases h : (bst s i).1 with
    | none =>
      rw [h] at hst
      unfold outK ownK
      rw [hst]
      rfl
    | some a =>
      rw [h] at hst
      unfold outK ownK
      rw [hst]
      simp [bl]
   ·have hb32 : ¬ by' s i = 32 := by
     rw [hb]
     intro q
     exact h32 (UInt8.toNat_inj.1 q)
    unfold bstep at hst
    rw [if_neg hb32] at hst
    rw [if_neg h32]
    unfold outK ownK
    rw [hst]
    cases h : (bst s i).1 with
    | none =>
      show _ = _ ++ wgo (bl (s.extract i (i + 1))) _
      rw [ext_next s (ali34 i) hc, bl_ext']
      simp [bl]
    | some a =>
      show _ = _ ++ wgo (bl (s.extract a (i + 1))) _
      rw [ext_next s (Nat.le_of_lt (bst_lt s i h)) hc]
theorem words_bl (s : ByteArray) : (wordsK s).map bl = wordsL (bl s) := by
 rw [words_go s s.size (ali34 _), words_eq, ali08]
 have hd : (bl s).drop s.size = [] := List.drop_eq_nil_of_le (by rw [bl_len]; exact ali34 _)
 rw [hd, wgo, own_eq s s.size (ali34 _)]
 cases (bst s s.size).1 <;> rfl
theorem words_of {s : ByteArray} {ws : List ByteArray} (h : wordsL (bl s) = ws.map bl) : wordsK s = ws := by
 have hb := words_bl s
 rw [h] at hb
 exact (List.map_inj_right fun x y e => (by cases x; cases y; simpa [bl, Array.toList_inj] using e)).1 hb
end Go.Lin
namespace Go.Chk
open Go Go.Vc Go.Runs
theorem rd_torn {v : Int} {body : List Int} (hb : (body.length : Int) ≤ 65536) {n : Nat} (hn : n < (sealB (recB v body)).length) : (rdS ((sealB (recB v body)).take n)).2.2 ≠ 0 := by
 have hl : ((sealB (recB v body)).take n).length = n := by rw [ali12]; omega
 rw [sealB_len, recB_len] at hn
 unfold rdS
 by_cases h0 : (tkS ((sealB (recB v body)).take n)).2 ≠ 0
 ·rw [if_pos h0]; exact h0
 ·rw [if_neg h0]
  have e : (tkS ((sealB (recB v body)).take n)).1 = ((sealB (recB v body)).take n).take (n - 2) ∧ 2 ≤ n := by
   unfold tkS at h0 ⊢
   rw [hl] at h0 ⊢
   by_cases c : n < 2
   ·rw [if_pos c] at h0; simp at h0
   ·rw [if_neg c] at h0 ⊢
    by_cases c2 : crcB ((sealB (recB v body)).take n) = 0#16
    ·rw [if_pos c2]; exact ⟨rfl, by omega⟩
    ·rw [if_neg c2] at h0; simp at h0
  obtain ⟨e, h2⟩ := e
  rw [e]
  have hl2 : (((sealB (recB v body)).take n).take (n - 2)).length = n - 2 := by rw [ali12, hl]; omega
  rw [hl2]
  by_cases c : n - 2 < 7
  ·rw [if_pos c]; simp
  ·rw [if_neg c]
   have et : ((sealB (recB v body)).take n).take (n - 2) = (recB v body).take (n - 2) := by
    rw [List.take_take, show min (n - 2) n = n - 2 by omega]
    unfold sealB
    rw [alj53 (by rw [recB_len]; omega)]
   rw [et]
   have e4 := be_len 4 v
   have e3 := be_len 3 (body.length : Int)
   have d7 : (((recB v body).take (n - 2)).drop 7).length = n - 9 := by rw [alj30, ali12, recB_len]; omega
   have t3 : (((recB v body).take (n - 2)).drop 4).take 3 = be 3 body.length := by
    rw [List.drop_take, List.take_take, show min 3 (n - 2 - 4) = 3 by omega]
    unfold recB
    rw [ali15, List.drop_append_of_le_length omm, alj12 omm, ali45, alj53 omm, ali11 omm]
   rw [if_pos (.inr (.inr (.inr (by rw [t3, be3 omm, d7]; omega))))]
   simp
theorem ofS_junk {D D' : Dk} {id : Int} {b : List Int} (hb : (rdS b).2.2 ≠ 0) (hg : ∀ k, getD D' k = if k = 4 * id + 1 - (ofS D id).1 then b else getD D k) : ofS D' id = ofS D id := by
 have oe : ∀ (D : Dk), ofS D id = stepS (stepS (2 * id + 1, 0, []) (2 * id) (rdS (getD D (2 * id)))) (2 * id + 1) (rdS (getD D (2 * id + 1))) := fun _ => rfl
 have hj : ∀ (best : Rc) (s : Int), stepS best s (rdS b) = best := fun best s => by unfold stepS; rw [if_neg fun q => hb q.1]
 have hsl := ofS_slot D id
 rw [oe D', hg, hg]
 rcases hsl with e | e
 ·rw [e, if_neg omm, if_pos omm, hj]
  have h1 : ofS D id = stepS (2 * id + 1, 0, []) (2 * id) (rdS (getD D (2 * id))) := by
   rw [oe D] at e ⊢
   generalize stepS (2 * id + 1, 0, []) (2 * id) (rdS (getD D (2 * id))) = x at *
   unfold stepS at e ⊢
   split
   ·rename_i q
    rw [if_pos q] at e
    simp only at e
    omega
   ·rfl
  exact h1.symm
 ·rw [e, if_pos omm, if_neg omm, hj]
  rw [oe D] at e ⊢
  generalize hr : rdS (getD D (2 * id + 1)) = r1 at *
  have hx : (stepS (2 * id + 1, 0, []) (2 * id) (rdS (getD D (2 * id)))) = (2 * id + 1, 0, []) ∨ ((stepS (2 * id + 1, 0, []) (2 * id) (rdS (getD D (2 * id)))).1 = 2 * id ∧ 0 < (stepS (2 * id + 1, 0, []) (2 * id) (rdS (getD D (2 * id)))).2.1) := by
   unfold stepS
   split
   ·rename_i q; exact .inr ⟨rfl, q.2⟩
   ·exact .inl rfl
  rcases hx with hx | ⟨hx1, hx2⟩
  ·rw [hx]
  ·generalize stepS (2 * id + 1, 0, []) (2 * id) (rdS (getD D (2 * id))) = x at *
   unfold stepS at e ⊢
   by_cases q : r1.2.2 = 0 ∧ r1.1 > x.2.1
   ·rw [if_pos q, if_pos ⟨q.1, by simp only; omega⟩]
   ·rw [if_neg q] at e
    omega
theorem fail0 {D : Dk} (h : Cln D) : failD D 0 = D := by
 unfold failD
 rw [if_neg dcc]
 obtain ⟨h1, h2, h3⟩ := h
 cases D
 simp only at h1 h2 h3
 subst h1 h2 h3; rfl
theorem crash_nil {D : Dk} (h : D.l = []) (keep : Int) : (crashD D keep).1 = { D with l := [], fails := 0, wait := 0 } := by
 unfold crashD
 rw [h]; rfl
theorem crash_l (D : Dk) (keep : Int) : (crashD D keep).1.l = [] := rfl
theorem save_crash {K : List Int} {m n : Nat} {D : Dk} (h : Sfe K m n D) {id : Int} {body : List Int} (hid : 0 ≤ id ∧ id ≤ 1099511627776) (hk1 : 2 * id ∈ K) (hk2 : 2 * id + 1 ∈ K) (hb : body.length + 9 ≤ m) (hb2 : (body.length : Int) ≤ 65536) (hn : n < 1073741824)
  {f : Int} (hf : -2 ≤ f ∧ f ≤ 2) (keep : Int) :
  ((svS (failD D f) id body).2 = 0 ∧ ldS (crashD (svS (failD D f) id body).1 keep).1 id = ldS (svS D id body).1 id) ∨
  ((svS (failD D f) id body).2 = 9 ∧ (ldS (crashD (svS (failD D f) id body).1 keep).1 id = ldS D id ∨ ldS (crashD (svS (failD D f) id body).1 keep).1 id = ldS (svS D id body).1 id)) := by
 obtain ⟨s1, s2, -⟩ := h.save (body := body) hid hk1 hk2 hb hb2 hn
 have hv := h.v id
 have hv0 := ofS_v D id
 have hc := h.c
 have hw : wrS ((ofS D id).2.1 + 1) body = (sealB (recB ((ofS D id).2.1 + 1) body), 0) := by unfold wrS; rw [if_neg omm]
 have hm : mayS id = true := by unfold mayS; simp; omega
 have hroom : (lenB (lay D.safe (4 * id + 1 - (ofS D id).1, sealB (recB ((ofS D id).2.1 + 1) body))) : Int) ≤ D.room := by
  by_cases q : (lenB (lay D.safe (4 * id + 1 - (ofS D id).1, sealB (recB ((ofS D id).2.1 + 1) body))) : Int) ≤ D.room
  ·exact q
  ·exfalso
   have hp : putD D (4 * id + 1 - (ofS D id).1) (sealB (recB ((ofS D id).2.1 + 1) body)) = (D, 8) := by
    unfold putD
    rw [hc.ask, if_neg smm, hc.now, if_pos omm]
   have : (svS D id body).2 = 8 := by
    unfold svS
    rw [if_pos hm, hw, if_neg smm, hp, if_pos smm]
   omega
 have hsv := svS_cln hc hid omm hb2 hroom
 rcases (show f = 0 ∨ 0 < f ∨ f < 0 by omega) with rfl | hp | hp
 ·rw [fail0 hc]
  refine .inl ⟨s1, ?_⟩
  have hcl := s2.c
  generalize (svS D id body).1 = D' at *
  rw [crash_nil hcl.l]
  congr 1
  obtain ⟨h1, h2, h3⟩ := hcl
  cases D'
  simp only at h1 h2 h3
  subst h1 h2 h3; rfl
 ·refine .inr ?_
  have e1 : failD D f = { D with fails := f, wait := 0 } := by unfold failD; rw [if_neg omm]
  have ha : askD (failD D f) = ({ D with fails := f - 1, wait := 0 }, true) := by
   rw [e1]
   unfold askD
   rw [if_neg smm, if_pos (by simpa using hp)]
  have ho : ofS (failD D f) id = ofS D id := by rw [e1]; rfl
  have hpt : ∀ k b, putD (failD D f) k b = ({ D with fails := f - 1, wait := 0 }, 9) := fun k b => by
   unfold putD
   rw [ha, if_pos rfl]
  have es : svS (failD D f) id body = ({ D with fails := f - 1, wait := 0 }, 9) := by
   unfold svS
   rw [if_pos hm, ho, hw, if_neg smm, hpt, if_pos smm]
  rw [es]
  refine ⟨rfl, .inl ?_⟩
  rw [crash_nil (by exact hc.l)]
  congr 1
  obtain ⟨h1, h2, h3⟩ := hc
  cases D
  simp only at h1 h2 h3
  subst h1 h2 h3; rfl
 ·refine .inr ?_
  have e1 : failD D f = { D with fails := -f, wait := 1 } := by
   unfold failD
   rw [if_pos omm, show min (-f) 1048576 = -f by omega]
  have ha : askD (failD D f) = ({ D with fails := -f, wait := 0 }, false) := by
   rw [e1]
   unfold askD
   rw [if_pos smm]
  have ho : ofS (failD D f) id = ofS D id := by rw [e1]; rfl
  have hnow : nowD (failD D f) = D.safe := by rw [e1]; exact hc.now
  generalize hbb : sealB (recB ((ofS D id).2.1 + 1) body) = b at *
  generalize hkk : 4 * id + 1 - (ofS D id).1 = k at *
  have hpt : putD (failD D f) k b = ({ D with fails := -f, wait := 0, l := [(k, b)] }, 0) := by
   unfold putD
   rw [ha, if_neg smm, hnow, if_neg (by rw [e1]; simp only; omega)]
   rw [e1]
   simp only [hc.l]
   rfl
  have hask2 : askD { D with fails := -f, wait := 0, l := [(k, b)] } = ({ D with fails := -f - 1, wait := 0, l := [(k, b)] }, true) := by
   unfold askD
   rw [if_neg smm, if_pos (by show 0 < -f; omega)]
  have es : svS (failD D f) id body = ({ D with fails := -f - 1, wait := 0, l := [(k, b)] }, 9) := by
   unfold svS
   rw [if_pos hm, ho, hw, if_neg smm, hkk, hpt, if_neg smm]
   unfold syncD
   simp only [hask2, if_true]
  rw [es]
  refine ⟨rfl, ?_⟩
  have hlb : lenB [(k, b)] = b.length := by unfold lenB; simp
  by_cases hk : (b.length : Int) ≤ keep
  ·right
   have : (crashD ({ D with fails := -f - 1, wait := 0, l := [(k, b)] } : Dk) keep).1 = { D with safe := lay D.safe (k, b), l := [], fails := 0, wait := 0 } := by
    unfold crashD keepD
    simp only [hlb]
    unfold crashG
    rw [if_pos (by simp only; omega)]
    rfl
   rw [this, hsv]
   congr 1
   obtain ⟨h1, h2, h3⟩ := hc
   rw [h2, h3]
  ·left
   have hkl : (min (max keep 0) (b.length : Int)).toNat < b.length ∨ b.length = 0 := by omega
   have hb9 : b.length = body.length + 9 := by rw [← hbb, sealB_len, recB_len]; omega
   have : (crashD ({ D with fails := -f - 1, wait := 0, l := [(k, b)] } : Dk) keep).1 = { D with safe := lay D.safe (k, b.take (min (max keep 0) (b.length : Int)).toNat), l := [], fails := 0, wait := 0 } := by
    unfold crashD keepD
    simp only [hlb]
    unfold crashG
    rw [if_neg (by simp only; omega)]
   rw [this]
   refine ldS_of (ofS_junk (b := b.take (min (max keep 0) (b.length : Int)).toNat) ?_ fun j => ?_)
   ·rw [← hbb]
    refine rd_torn hb2 ?_
    rw [hbb]
    omega
   ·rw [hkk, getD_cln hc]
    have hcl : Cln ({ D with safe := lay D.safe (k, b.take (min (max keep 0) (b.length : Int)).toNat), l := [], fails := 0, wait := 0 } : Dk) := ⟨rfl, rfl, rfl⟩
    rw [getD_cln hcl]
    show ((getB (lay D.safe _) j).getD []) = _
    rw [getB_lay h.ok.nd]
    split <;> rfl
theorem save_left {K : List Int} {m n : Nat} {D : Dk} (h : Sfe K m n D) {id : Int} {body : List Int} (hid : 0 ≤ id ∧ id ≤ 1099511627776) (hk1 : 2 * id ∈ K) (hk2 : 2 * id + 1 ∈ K) (hb : body.length + 9 ≤ m) (hb2 : (body.length : Int) ≤ 65536) (hn : n < 1073741824)
  {f : Int} (hf : -2 ≤ f ∧ f ≤ 2) :
  (∀ x ∈ (svS (failD D f) id body).1.safe, x.1 ∈ K) ∧ (∀ x ∈ (svS (failD D f) id body).1.l, x.1 ∈ K ∧ x.2.length ≤ m) ∧ (svS (failD D f) id body).1.l.length ≤ 1 := by
 have hv := h.v id
 have hv0 := ofS_v D id
 have hc := h.c
 have hsl := ofS_slot D id
 have hslot : 4 * id + 1 - (ofS D id).1 ∈ K := by
  rcases hsl with e | e
  ·rw [show 4 * id + 1 - (ofS D id).1 = 2 * id + 1 by omega]; exact hk2
  ·rw [show 4 * id + 1 - (ofS D id).1 = 2 * id by omega]; exact hk1
 have hblob : (sealB (recB ((ofS D id).2.1 + 1) body)).length = body.length + 9 := by rw [sealB_len, recB_len]; omega
 have hw : wrS ((ofS D id).2.1 + 1) body = (sealB (recB ((ofS D id).2.1 + 1) body), 0) := by unfold wrS; rw [if_neg omm]
 have hm : mayS id = true := by unfold mayS; simp; omega
 rcases (show f = 0 ∨ f ≠ 0 by omega) with rfl | hf0
 ·rw [fail0 hc]
  obtain ⟨-, s2, -⟩ := h.save (body := body) hid hk1 hk2 hb hb2 hn
  exact ⟨s2.k, fun x hx => (by rw [s2.c.l] at hx; cases hx), by rw [s2.c.l]; exact alj66 _⟩
 ·have ho : ofS (failD D f) id = ofS D id := by unfold failD; split <;> rfl
  have hs : (failD D f).safe = D.safe ∧ (failD D f).l = [] := by unfold failD; split <;> exact ⟨rfl, hc.l⟩
  unfold svS
  rw [if_pos hm, ho, hw, if_neg smm]
  simp only
  generalize hbb : sealB (recB ((ofS D id).2.1 + 1) body) = b at *
  generalize hkk : 4 * id + 1 - (ofS D id).1 = k at *
  obtain ⟨a1, a2, -⟩ := askD_safe (failD D f)
  have hput : ((putD (failD D f) k b).1.safe = D.safe) ∧ ((putD (failD D f) k b).1.l = [] ∨ ((putD (failD D f) k b).1.l = [(k, b)] ∧ (putD (failD D f) k b).1 = { (askD (failD D f)).1 with l := [(k, b)] } ∧ (askD (failD D f)).2 = false)) := by
   unfold putD
   split
   ·exact ⟨a1.trans hs.1, .inl (a2.trans hs.2)⟩
   ·rename_i hq
    split
    ·exact ⟨a1.trans hs.1, .inl (a2.trans hs.2)⟩
    ·rw [hs.2]
     exact ⟨a1.trans hs.1, .inr ⟨rfl, rfl, by simpa using hq⟩⟩
  have fin : ∀ X : Dk, X.safe = D.safe → (X.l = [] ∨ X.l = [(k, b)]) → (∀ x ∈ X.safe, x.1 ∈ K) ∧ (∀ x ∈ X.l, x.1 ∈ K ∧ x.2.length ≤ m) ∧ X.l.length ≤ 1 := by
   intro X h1 h2
   refine ⟨fun x hx => h.k x (h1 ▸ hx), fun x hx => ?_, ?_⟩
   ·rcases h2 with h2 | h2 <;> rw [h2] at hx
    ·cases hx
    ·rw [alj46.1 hx]
     exact ⟨hslot, by show b.length ≤ m; omega⟩
   ·rcases h2 with h2 | h2 <;> rw [h2] <;> simp
  split
  ·exact fin _ hput.1 (hput.2.imp (fun q => q) And.left)
  ·rename_i hq
   obtain ⟨hp1, hp2⟩ := hput
   obtain ⟨b1, b2, -⟩ := askD_safe (putD (failD D f) k b).1
   unfold syncD
   split
   ·exact fin _ (b1.trans hp1) (by rw [b2]; exact hp2.imp (fun q => q) And.left)
   ·rename_i hq2
    rcases hp2 with hp2 | ⟨-, hp3, hp4⟩
    ·exfalso
     unfold putD at hq hp2
     split at hq
     ·simp at hq
     ·rename_i c1
      split at hq
      ·simp at hq
      ·rename_i c2
       rw [if_neg c1, if_neg c2] at hp2
       simp at hp2
    ·exfalso
     have hfw : (failD D f).fails ≠ 0 ∧ 0 ≤ (failD D f).fails ∧ ((failD D f).wait = 0 ∨ (failD D f).wait = 1) := by
      unfold failD
      split
      ·exact ⟨by show min (-f) 1048576 ≠ 0; omega, by show 0 ≤ min (-f) 1048576; omega, .inr rfl⟩
      ·exact ⟨hf0, by show 0 ≤ f; omega, .inl rfl⟩
     rw [hp3] at hq2
     unfold askD at hq2 hp4
     by_cases c : 0 < (failD D f).wait
     ·rw [if_pos c] at hq2
      simp only at hq2
      rw [if_neg omm, if_pos omm] at hq2
      simp at hq2
     ·rw [if_neg c, if_pos omm] at hp4
      simp at hp4
theorem crashG_keys {K : List Int} : ∀ (t : List Wr1) (n : Int) (s : List Wr1), (∀ x ∈ s, x.1 ∈ K) → (∀ x ∈ t, x.1 ∈ K) → ∀ x ∈ crashG n s t, x.1 ∈ K
 | [], n, s, hs, _ => hs
 | w :: t, n, s, hs, ht => by
   have hl : ∀ (b : List Int), ∀ x ∈ lay s (w.1, b), x.1 ∈ K := fun b x hx => by
    rcases ali16.1 ((lay_perm s (w.1, b)).mem_iff.1 hx) with rfl | hx
    ·exact ht w (.head _)
    ·exact hs x (alj40.1 hx).1
   unfold crashG
   split
   ·exact crashG_keys t _ _ (hl w.2) fun x hx => ht x (.tail _ hx)
   ·exact hl _
theorem ld0_none {D : Dk} (hl : D.l = []) (hk : ∀ x ∈ D.safe, x.1 ≠ 0 ∧ x.1 ≠ 1) : (ldS D 0).2.2 = false := by
 have hn : nowD D = D.safe := by unfold nowD; rw [hl]; rfl
 have hg : ∀ k : Int, k = 0 ∨ k = 1 → getD D k = [] := fun k hkk => by
  unfold getD
  rw [hn, getB_none.2 fun x hx => by have := hk x hx; omega]
  rfl
 have e : ofS D 0 = (1, 0, []) := by
  unfold ofS
  rw [hg (2 * 0) (.inl rfl), hg (2 * 0 + 1) (.inr rfl)]
  rfl
 unfold ldS
 split
 ·rw [e]; rfl
 ·rfl
end Go.Chk
namespace Go.Vc
open Go Go.RowKit Go.ChangeShapes Go.WideShapes
theorem inI_wf' {n : Int} (h : (Lit.int .i64 n).wf = true) : inI n := by
 have h1 : IntKind.min .i64 = -9223372036854775808 := by decide
 have h2 : IntKind.max .i64 = 9223372036854775807 := by decide
 simp only [Lit.wf, ali39, ali27, h1, h2] at h
 exact h
section
variable {H : Type} {enc : TypeId × Value → H} {P : Program} {w : World} {base : Nat} {spare : Nat → Bool} {held : Bool}
theorem pair_of_trod {t : TypeId} {f0 f1 : Field} {fuel : Nat} {cs : LV} {x : DataW H × List MemPlace} (ht : P.underlying t = some (.struct #[f0, f1])) (ce : P.cellsOf t = 2)
  (o0 : f0.offset = 0) (o1 : f1.offset = 1) (c0 : P.cellsOf f0.type = 1) (c1 : P.cellsOf f1.type = 1) (u0 : P.underlying f0.type = some (.int .i64)) (u1 : P.underlying f1.type = some (.int .i64))
  (h : DataW.trod enc P w base spare held fuel t cs = some x) : ∃ a b, cs = [.int .i64 a, .int .i64 b] ∧ inI a ∧ inI b := by
 obtain ⟨xs, n, _, _, hl, hxl, hf⟩ := DataW.trod_struct ht h
 rw [ce] at hl
 match xs, hxl, cs, hl with
 | [y0, y1], _, [v0, v1], _ =>
   have h0 := hf 0 f0 rfl
   have h1 := hf 1 f1 rfl
   rw [o0, c0] at h0
   rw [o1, c1] at h1
   obtain ⟨a, e0, _, wa⟩ := DataW.trod_int u0 h0
   obtain ⟨b, e1, _, wb⟩ := DataW.trod_int u1 h1
   simp at e0 e1
   exact ⟨a, b, by rw [e0, e1], inI_wf' wa, inI_wf' wb⟩
theorem pairs_of_trod {t e : TypeId} {f0 f1 : Field} {fuel : Nat} {a : Option Addr} {len cap : Nat} {x : DataW H × List MemPlace} (ht : P.underlying t = some (.slice e)) (he : P.underlying e = some (.struct #[f0, f1]))
  (ce : P.cellsOf e = 2) (o0 : f0.offset = 0) (o1 : f1.offset = 1) (c0 : P.cellsOf f0.type = 1) (c1 : P.cellsOf f1.type = 1) (u0 : P.underlying f0.type = some (.int .i64)) (u1 : P.underlying f1.type = some (.int .i64))
  (h : DataW.trod enc P w base spare held fuel t [.slice a len cap] = some x) :
  ∃ l : List (Int × Int), RdK w ⟨a, len, cap⟩ 2 (l.map fun r => [.int .i64 r.1, .int .i64 r.2]) ∧ (∀ r ∈ l, inI r.1 ∧ inI r.2) ∧ len ≤ cap ∧ cap ≤ maxLen := by
 rcases Go.Deep.open_slice_pairs ht he ce o0 o1 c0 c1 h with ⟨hcs, _⟩ | ⟨b, len', cap', m, n, V0, V1, D0, D1, P0, P1, hcs, _, hl, hm, hmm, _, hx⟩
 ·simp at hcs
  obtain ⟨rfl, rfl, rfl⟩ := hcs
  exact ⟨[], ⟨rfl, by simp, fun i r hi => by simp at hi⟩, by simp, ali34 _, by decide⟩
 ·simp at hcs
  obtain ⟨rfl, rfl, rfl⟩ := hcs
  have hlm : len ≤ m := by rw [hmm]; split <;> omega
  have each : ∀ i, i < len → ∃ r : Int × Int, w.cell? (b.add (i * 2)) = some (.int .i64 r.1) ∧ w.cell? (b.add (i * 2 + 1)) = some (.int .i64 r.2) ∧ inI r.1 ∧ inI r.2 := by
   intro i hi
   obtain ⟨h0, h1, h2, h3⟩ := hx i omm
   obtain ⟨p, e0, _, wp⟩ := DataW.trod_int u0 h2
   obtain ⟨q, e1, _, wq⟩ := DataW.trod_int u1 h3
   simp at e0 e1
   exact ⟨(p, q), by rw [h0, e0], by rw [h1, e1], inI_wf' wp, inI_wf' wq⟩
  have pick : ∃ f : Nat → Int × Int, ∀ i, i < len → w.cell? (b.add (i * 2)) = some (.int .i64 (f i).1) ∧ w.cell? (b.add (i * 2 + 1)) = some (.int .i64 (f i).2) ∧ inI (f i).1 ∧ inI (f i).2 := by
   refine ⟨fun i => if hi : i < len then Classical.choose (each i hi) else (0, 0), fun i hi => ?_⟩
   simp only [dif_pos hi]
   exact Classical.choose_spec (each i hi)
  obtain ⟨f, hf⟩ := pick
  refine ⟨(List.range len).map f, ⟨by simp, by simp, fun i r hi j v hj => ?_⟩, fun r hr => ?_, hl, hm⟩
  ·simp only [alj35, ali02, alj68] at hi
   obtain ⟨k, hk, rfl⟩ := hi
   obtain ⟨hk1, hk2⟩ := ali03.1 hk
   simp at hk1 hk2
   subst hk2
   obtain ⟨h0, h1, _, _⟩ := hf i hk1
   rcases j with _ | _ | j <;> simp at hj
   ·subst hj; exact h0
   ·subst hj; exact h1
  ·obtain ⟨i, hi, rfl⟩ := ali06.1 hr
   exact (hf i (by simpa using hi)).2.2
theorem ints_of_trod {t e : TypeId} {k : IntKind} {fuel : Nat} {a : Option Addr} {len cap : Nat} {x : DataW H × List MemPlace} (ht : P.underlying t = some (.slice e)) (he : P.underlying e = some (.int k)) (ce : P.cellsOf e = 1)
  (h : DataW.trod enc P w base spare held fuel t [.slice a len cap] = some x) :
  ∃ z : List Int, RdK w ⟨a, len, cap⟩ 1 (z.map fun n => [.int k n]) ∧ (∀ n ∈ z, (Lit.int k n).wf = true) ∧ len ≤ cap ∧ cap ≤ maxLen := by
 rcases Go.ChangeShapes.open_ints ht he ce h with ⟨hcs, _⟩ | ⟨b, len', cap', zs, hcs, _, hl, hm, hz, _, hcell, hwf⟩
 ·simp at hcs
  obtain ⟨rfl, rfl, rfl⟩ := hcs
  exact ⟨[], ⟨rfl, by simp, fun i r hi => by simp at hi⟩, by simp, ali34 _, by decide⟩
 ·simp at hcs
  obtain ⟨rfl, rfl, rfl⟩ := hcs
  have hlm : len ≤ zs.length := by rw [hz]; split <;> omega
  refine ⟨zs.take len, ⟨by simp; omega, fun r hr => by obtain ⟨q, _, rfl⟩ := ali06.1 hr; rfl, fun i r hi j v hj => ?_⟩, fun n hn => hwf n (alj44 hn), hl, hm⟩
  rw [ali02, alj68] at hi
  obtain ⟨q, hq, rfl⟩ := hi
  rw [alj29] at hq
  split at hq
  ·rename_i hil
   have := hcell i omm
   rw [ali05, hq] at this
   rcases j with _ | j <;> simp at hj
   subst hj
   show w.cell? (b.add (i * 1 + 0)) = _
   rw [alj64, Nat.add_zero]
   exact this
  ·cases hq
theorem u8_wf {n : Int} (h : (Lit.int .u8 n).wf = true) : 0 ≤ n ∧ n < 256 := by
 have h1 : IntKind.min .u8 = 0 := by decide
 have h2 : IntKind.max .u8 = 255 := by decide
 simp only [Lit.wf, ali39, ali27, h1, h2] at h
 omega
end
end Go.Vc
namespace Go.Vc
open Go Go.RowKit Go.ChangeShapes Go.WideShapes
section
variable {H : Type} {enc : TypeId × Value → H} {P : Program} {w : World} {base : Nat} {spare : Nat → Bool} {held : Bool}
def flatB (P : Program) : Nat → TypeId → Bool
 | 0, _ => false
 | n + 1, t => match P.underlying t with
   | some (.int .i64) => P.cellsOf t == 1
   | some (.struct fs) => (List.range (P.cellsOf t)).all fun i => (List.range fs.size).any fun j => match fs[j]? with
     | some f => decide (f.offset ≤ i) && decide (i < f.offset + P.cellsOf f.type) && flatB P n f.type
     | none => false
   | _ => false
theorem flat_of_trod : ∀ {n : Nat} {t : TypeId} {fuel : Nat} {cs : LV} {x : DataW H × List MemPlace}, flatB P n t = true → DataW.trod enc P w base spare held fuel t cs = some x →
  cs.length = P.cellsOf t ∧ ∀ v ∈ cs, ∃ z, v = .int .i64 z ∧ inI z
 | 0, _, _, _, _, h, _ => by simp [flatB] at h
 | n + 1, t, fuel, cs, x, h, ht => by
   unfold flatB at h
   split at h
   ·rename_i e
    obtain ⟨z, rfl, _, hw⟩ := DataW.trod_int e ht
    have : P.cellsOf t = 1 := by simpa using h
    refine ⟨by rw [this]; rfl, fun v hv => ?_⟩
    rw [alj46] at hv
    exact ⟨z, hv, inI_wf' hw⟩
   ·rename_i fs e
    obtain ⟨xs, k, _, _, hl, hxl, hf⟩ := DataW.trod_struct e ht
    refine ⟨hl, fun v hv => ?_⟩
    obtain ⟨i, hi, rfl⟩ := List.getElem_of_mem hv
    rw [alj10] at h
    have hj := h i (alj45.2 omm)
    rw [List.any_eq_true] at hj
    obtain ⟨j, hjr, hj⟩ := hj
    rw [alj45] at hjr
    split at hj
    ·rename_i f hfj
     simp only [ali39, ali27] at hj
     have hx := hf j f hfj
     rw [ali04 omm] at hx
     obtain ⟨hlen, hall⟩ := flat_of_trod hj.2 hx
     refine hall _ (ali00 (i := i - f.offset) ?_)
     rw [alj29, if_pos omm, alj24, ali04 omm]
     congr 2; omega
    ·cases hj
   ·cases h
theorem ints_of_cells : ∀ {cs : LV}, (∀ v ∈ cs, ∃ z, v = .int .i64 z ∧ inI z) → ∃ r : List Int, cs = r.map (fun n => .int .i64 n) ∧ ∀ n ∈ r, inI n
 | [], _ => ⟨[], rfl, by simp⟩
 | v :: cs, h => by
   obtain ⟨z, rfl, hz⟩ := h v (List.mem_cons_self ..)
   obtain ⟨r, rfl, hr⟩ := ints_of_cells fun u hu => h u (alj39 _ hu)
   refine ⟨z :: r, rfl, fun n hn => ?_⟩
   rcases ali16.1 hn with rfl | hn
   ·exact hz
   ·exact hr n hn
theorem flats_of_trod {n : Nat} {t : TypeId} {fuel : Nat} {cs : LV} {x : DataW H × List MemPlace} (hb : flatB P n t = true) (h : DataW.trod enc P w base spare held fuel t cs = some x) :
  ∃ r : List Int, cs = r.map (fun n => .int .i64 n) ∧ r.length = P.cellsOf t ∧ ∀ n ∈ r, inI n := by
 obtain ⟨h1, h2⟩ := flat_of_trod hb h
 obtain ⟨r, rfl, hr⟩ := ints_of_cells h2
 exact ⟨r, rfl, by simpa using h1, hr⟩
theorem flat3_of_trod {n : Nat} {t : TypeId} {fuel : Nat} {cs : LV} {x : DataW H × List MemPlace} (hb : flatB P n t = true) (hk : P.cellsOf t = 3) (h : DataW.trod enc P w base spare held fuel t cs = some x) :
  ∃ a b c, cs = [.int .i64 a, .int .i64 b, .int .i64 c] ∧ inI a ∧ inI b ∧ inI c := by
 obtain ⟨r, rfl, hl, hi⟩ := flats_of_trod hb h
 rw [hk] at hl
 match r, hl with
 | [a, b, c], _ => exact ⟨a, b, c, rfl, hi a smm, hi b smm, hi c smm⟩
theorem rows_of_trod {m k : Nat} {t e : TypeId} {fuel : Nat} {a : Option Addr} {len cap : Nat} {x : DataW H × List MemPlace} (ht : P.underlying t = some (.slice e)) (hb : flatB P m e = true) (hk : P.cellsOf e = k)
  (h : DataW.trod enc P w base spare held fuel t [.slice a len cap] = some x) :
  ∃ z : List (List Int), RdK w ⟨a, len, cap⟩ k (z.map fun r => r.map fun n => .int .i64 n) ∧ (∀ r ∈ z, r.length = k ∧ ∀ n ∈ r, inI n) ∧ len ≤ cap ∧ cap ≤ maxLen := by
 rcases Go.Deep.open_slice ht h with ⟨hcs, _⟩ | ⟨b, len', cap', m', n, D, Pl, hcs, _, hl, hm, hmm, _, hx⟩
 ·simp at hcs
  obtain ⟨rfl, rfl, rfl⟩ := hcs
  exact ⟨[], ⟨rfl, by simp, fun i r hi => by simp at hi⟩, by simp, ali34 _, by decide⟩
 ·simp at hcs
  obtain ⟨rfl, rfl, rfl⟩ := hcs
  have hlm : len ≤ m' := by rw [hmm]; split <;> omega
  have each : ∀ i, i < len → ∃ r : List Int, (∀ j, j < k → w.cell? ((b.add (i * k)).add j) = (r.map fun n => Value.int .i64 n)[j]?) ∧ r.length = k ∧ ∀ n ∈ r, inI n := by
   intro i hi
   obtain ⟨cs', h1, h2⟩ := hx i omm
   obtain ⟨r, rfl, hr1, hr2⟩ := flats_of_trod hb h2
   rw [hk] at h1 hr1
   exact ⟨r, (World.cells?_some h1).2.2, hr1, hr2⟩
  have pick : ∃ f : Nat → List Int, ∀ i, i < len → (∀ j, j < k → w.cell? ((b.add (i * k)).add j) = ((f i).map fun n => Value.int .i64 n)[j]?) ∧ (f i).length = k ∧ ∀ n ∈ f i, inI n := by
   refine ⟨fun i => if hi : i < len then Classical.choose (each i hi) else [], fun i hi => ?_⟩
   simp only [dif_pos hi]
   exact Classical.choose_spec (each i hi)
  obtain ⟨f, hf⟩ := pick
  refine ⟨(List.range len).map f, ⟨by simp, fun r hr => ?_, fun i r hi j v hj => ?_⟩, fun r hr => ?_, hl, hm⟩
  ·obtain ⟨r', hr', rfl⟩ := ali06.1 hr
   obtain ⟨i, hi, rfl⟩ := ali06.1 hr'
   rw [ali01]
   exact (hf i (by simpa using hi)).2.1
  ·simp only [alj35, ali02, alj68] at hi
   obtain ⟨q, hq, rfl⟩ := hi
   obtain ⟨hk1, hk2⟩ := ali03.1 hq
   simp at hk1 hk2
   subst hk2
   obtain ⟨h0, h1, _⟩ := hf i hk1
   have hjk : j < k := by
    have := (ali03.1 hj).1
    simp at this; omega
   have := h0 j hjk
   rw [← padd_padd]
   show w.cell? ((b.add (i * k)).add j) = _
   rw [this]; exact hj
  ·obtain ⟨i, hi, rfl⟩ := ali06.1 hr
   exact (hf i (by simpa using hi)).2
end
end Go.Vc
