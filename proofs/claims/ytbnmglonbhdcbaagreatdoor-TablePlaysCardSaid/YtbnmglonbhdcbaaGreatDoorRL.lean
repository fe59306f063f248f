import Derived.Test.YtbnmglonbhdcbaaGreatDoorRF
import Derived.Test.YtbnmglonbhdcbaaGreatDoorKU
import Derived.Test.YtbnmglonbhdcbaaGreatDoorGL
import Derived.Test.YtbnmglonbhdcbaaGreatDoorFr
set_option linter.all false
namespace Go.Proofs.YtbnmglonbhdcbaaGreatDoor
open Go Go.Vc Go.RowKit Go.Proofs Go.Chk Go.Runs Go.Code
def pinsIn (n : Nat) (l : List En) : Prop := ∀ e ∈ l, 0 ≤ e.2.2.2 ∧ e.2.2.2 ≤ n
structure Iv (m n : Nat) (T : Tb) : Prop where
 m : mD T.1 ≤ m
 p : pinsIn n T.2
 nod : nodL T.2
theorem Iv.mono {m n m' n' : Nat} {T : Tb} (h : Iv m n T) (hm : m ≤ m') (hn : n ≤ n') : Iv m' n' T := ⟨Nat.le_trans h.m hm, (fun e he => by have := h.p e he; omega), h.nod⟩
theorem iv_erase {m n : Nat} {D : Dk} {l : List En} (h : Iv m n (D, l)) (i : Nat) : Iv m n (D, l.eraseIdx i) := ⟨h.m, (fun e he => h.p e ((List.eraseIdx_sublist ..).subset he)), nod_erase h.nod i⟩
theorem iv_save {m n : Nat} {D : Dk} {l : List En} (h : Iv m n (D, l)) {i : Nat} {e : En} (hi : l[i]? = some e) : Iv (m + 1) n ((saveE D e).1, l.set i (saveE D e).2.1) := by
 have h1 := mD_saveE D e
 have h2 := h.m
 refine ⟨by simp only at h2 ⊢; omega, fun x hx => ?_, nod_set h.nod hi (saveE_en D e).1⟩
 rcases List.mem_or_eq_of_mem_set hx with hx | rfl
 ·exact h.p x hx
 ·rw [(saveE_en D e).2.2]; exact h.p e (List.mem_of_getElem? hi)
theorem iv_go {m n : Nat} {D : Dk} {l : List En} (h : Iv m n (D, l)) (i : Nat) : Iv (m + 1) n (goE D l i).1 := by
 cases hi : l[i]? with
 | none => unfold goE; rw [hi]; exact h.mono (by omega) (Nat.le_refl _)
 | some e =>
   rw [goE_at hi]
   have := iv_save h hi
   split
   ·have := iv_erase this i
    simp only [List.eraseIdx_set_eq] at this
    exact this
   ·exact this
theorem iv_room {m n : Nat} {D : Dk} {l : List En} (h : Iv m n (D, l)) (limit : Int) : Iv (m + 1) n (roomE limit D l).1 := by
 unfold roomE
 split
 ·exact h.mono (by omega) (Nat.le_refl _)
 ·split
  ·exact h.mono (by omega) (Nat.le_refl _)
  ·exact iv_go h _
theorem go_sub {D : Dk} {l : List En} {i : Nat} {x : En} (hx : x ∈ (goE D l i).1.2) : here1 l x.1 := by
 cases hi : l[i]? with
 | none => unfold goE at hx; rw [hi] at hx; exact ⟨x, hx, rfl⟩
 | some e =>
   rw [goE_at hi] at hx
   split at hx
   ·exact ⟨x, (List.eraseIdx_sublist ..).subset hx, rfl⟩
   ·rcases List.mem_or_eq_of_mem_set hx with hx | rfl
    ·exact ⟨x, hx, rfl⟩
    ·exact ⟨e, List.mem_of_getElem? hi, (saveE_en D e).1.symm⟩
theorem room_sub {limit : Int} {D : Dk} {l : List En} {x : En} (hx : x ∈ (roomE limit D l).1.2) : here1 l x.1 := by
 unfold roomE at hx
 split at hx
 ·exact ⟨x, hx, rfl⟩
 ·split at hx
  ·exact ⟨x, hx, rfl⟩
  ·exact go_sub hx
theorem nod_last {l : List En} (hn : nodL l) {k : Nat} {e e' : En} (hk : l[k]? = some e) (h1 : e'.1 = e.1) : nodL (l.eraseIdx k ++ [e']) := nod_push (nod_erase hn k) fun ⟨x, hx, q⟩ => ((mem_erase hn hk x).1 hx).2 (q.trans h1)
theorem iv_ld {m n : Nat} {D : Dk} {l : List En} (h : Iv m n (D, l)) (seed limit : Int) (p : Po) : Iv (m + 1) n (ldE seed limit D l p).1 := by
 have hr := iv_room h limit
 have hsub := @room_sub limit D l
 unfold ldE
 rcases firstI_cases (fun e : En => e.1 == p) l with ⟨hf, hno⟩ | ⟨k, e, hk, he, hf, -⟩
 ·rw [hf]
  split
  ·exact h.mono (by omega) (Nat.le_refl _)
  ·rw [if_neg (by decide)]
   split
   ·exact hr
   ·refine ⟨hr.m, fun e he => ?_, nod_push hr.nod fun ⟨x, hx, q⟩ => ?_⟩
    ·rcases List.mem_append.1 he with he | he
     ·exact hr.p e he
     ·simp only [List.mem_singleton] at he
      subst he
      exact ⟨Int.le_refl 0, by simp only; omega⟩
    ·obtain ⟨y, hy, q2⟩ := hsub hx
     have := hno y hy
     have q3 : y.1 = p := q2.trans q
     simp [q3] at this
 ·rw [hf]
  split
  ·exact h.mono (by omega) (Nat.le_refl _)
  ·rw [if_pos (by omega), Int.toNat_natCast, hk]
   refine ⟨by have := h.m; simp only at this ⊢; omega, fun x hx => ?_, nod_last h.nod hk rfl⟩
   rcases List.mem_append.1 hx with hx | hx
   ·exact h.p x ((List.eraseIdx_sublist ..).subset hx)
   ·have : x = e := by simpa using hx
    subst this; exact h.p x (List.mem_of_getElem? hk)
theorem iv_unld {m n : Nat} {D : Dk} {l : List En} (h : Iv m n (D, l)) (p : Po) : Iv (m + 1) n (unldE D l p).1 := by
 unfold unldE
 split
 ·split
  ·exact h.mono (by omega) (Nat.le_refl _)
  ·exact iv_go h _
 ·exact h.mono (by omega) (Nat.le_refl _)
theorem iv_fl {m n : Nat} {D : Dk} {l : List En} (h : Iv m n (D, l)) (p : Po) : Iv (m + 1) n (flE D l p).1 := by
 unfold flE
 split
 ·split
  ·rename_i e he; exact iv_save h he
  ·exact h.mono (by omega) (Nat.le_refl _)
 ·exact h.mono (by omega) (Nat.le_refl _)
theorem iv_flG {n : Nat} : ∀ (t : List En) {m : Nat} {D : Dk} {pre : List En} (c : Int), Iv m n (D, pre ++ t) → Iv (m + t.length) n (flG D pre t c).1
 | [], m, D, pre, c, h => by rw [List.append_nil] at h; exact h
 | e :: t, m, D, pre, c, h => by
   have hs := iv_save h (i := pre.length) (e := e) (by simp)
   have es : (pre ++ e :: t).set pre.length (saveE D e).2.1 = pre ++ (saveE D e).2.1 :: t := by simp
   rw [es] at hs
   unfold flG
   split
   ·have := iv_flG t (pre := pre ++ [(saveE D e).2.1]) (if e.2.2.1 = true then c + 1 else c) (by simpa using hs)
    exact this.mono (by simp only [List.length_cons]; omega) (Nat.le_refl _)
   ·exact hs.mono (by simp only [List.length_cons]; omega) (Nat.le_refl _)
theorem iv_flall {m n : Nat} {D : Dk} {l : List En} (h : Iv m n (D, l)) : Iv (m + l.length) n (flallE D l).1 := iv_flG l 0 h
theorem iv_set {m n : Nat} {D : Dk} {l : List En} (h : Iv m n (D, l)) (c : Ce) (b : Int) : Iv m n (D, (setE l c b).1) := by
 have key : ∀ {l' : List En}, (∀ x ∈ l', 0 ≤ x.2.2.2 ∧ x.2.2.2 ≤ n) → nodL l' → Iv m n (D, l') := fun h1 h2 => ⟨h.m, h1, h2⟩
 unfold setE
 rcases firstI_cases (fun e : En => e.1 == pos c) l with ⟨hf, hno⟩ | ⟨k, e, hk, he, hf, -⟩
 ·rw [hf, if_pos (by decide)]; exact h
 ·rw [hf, if_neg (by omega)]
  split
  ·exact h
  ·split
   ·exact h
   ·rw [Int.toNat_natCast, hk]
    refine key (fun x hx => ?_) (nod_last h.nod hk rfl)
    rcases List.mem_append.1 hx with hx | hx
    ·exact h.p x ((List.eraseIdx_sublist ..).subset hx)
    ·have : x = (e.1, (kSet e.1 e.2.1 c b).1, e.2.2.1 || (kAt e.1 e.2.1 c != b), e.2.2.2) := by simpa using hx
     subst this; exact h.p e (List.mem_of_getElem? hk)
theorem iv_pin {m n : Nat} {D : Dk} {l : List En} (h : Iv m n (D, l)) (p : Po) : Iv m (n + 1) (D, (pinE l p).1) ∧ Iv m (n + 1) (D, (unpinE l p).1) := by
 have h0 := h.mono (Nat.le_refl m) (Nat.le_succ n)
 have hset : ∀ (k : Nat) (e : En) (q : Int), l[k]? = some e → 0 ≤ q → q ≤ n + 1 → Iv m (n + 1) (D, l.set k (e.1, e.2.1, e.2.2.1, q)) := fun k e q hk h1 h2 => ⟨h.m, (fun x hx => by
  rcases List.mem_or_eq_of_mem_set hx with hx | rfl
  ·exact h0.p x hx
  ·exact ⟨h1, by simp only; omega⟩), nod_set h.nod hk rfl⟩
 rcases firstI_cases (fun e : En => e.1 == p) l with ⟨hf, hno⟩ | ⟨k, e, hk, he, hf, -⟩
 ·have p1 : pinE l p = (l, 6) := by unfold pinE; rw [hf, if_neg (by decide)]
  have p2 : unpinE l p = (l, 6) := by unfold unpinE; rw [hf, if_neg (by decide)]
  rw [p1, p2]; exact ⟨h0, h0⟩
 ·have hp := h.p e (List.mem_of_getElem? hk)
  have p1 : pinE l p = (l.set k (e.1, e.2.1, e.2.2.1, e.2.2.2 + 1), 0) := by unfold pinE; rw [hf, if_pos (by omega), Int.toNat_natCast, modify_set hk]
  have p2 : unpinE l p = if e.2.2.2 = 0 then (l, 1) else (l.set k (e.1, e.2.1, e.2.2.1, e.2.2.2 - 1), 0) := by
   unfold unpinE
   rw [hf, if_pos (by omega), Int.toNat_natCast, hk, modify_set hk]
   by_cases q : e.2.2.2 = 0
   ·rw [if_pos (by simp [q]), if_pos q]
   ·rw [if_neg (by simp [q]), if_neg q]
  rw [p1, p2]
  refine ⟨hset k e _ hk (by omega) (by omega), ?_⟩
  by_cases q : e.2.2.2 = 0
  ·rw [if_pos q]; exact h0
  ·rw [if_neg q]; exact hset k e _ hk (by omega) (by omega)
theorem crashG_len : ∀ (t : List Wr1) (n : Int) (s : List Wr1), (crashG n s t).length ≤ s.length + t.length
 | [], n, s => by unfold crashG; simp
 | y :: t, n, s => by
   unfold crashG
   split
   ·have := crashG_len t (n - y.2.length) (lay s y)
    have := lay_len s y
    simp only [List.length_cons]; omega
   ·have := lay_len s (y.1, y.2.take n.toNat)
    simp only [List.length_cons]; omega
theorem mD_crash (D : Dk) (keep : Int) : mD (crashD D keep).1 ≤ mD D := by
 unfold crashD mD
 have := crashG_len D.l (keepD D keep) D.safe
 simp only [List.length_nil]; omega
theorem mD_fail (D : Dk) (n : Int) : mD (failD D n) = mD D := by unfold failD; split <;> rfl
theorem getB_len {l : List Wr1} (h : (keysOf l).Nodup) (y : Wr1) : y.2.length ≤ lenB (lay l y) := by
 have h1 := getB_lay h y y.1
 rw [if_pos rfl] at h1
 have h2 := getB_le (lay_nodup (w := y) h) y.1
 rw [h1] at h2; exact h2
theorem lenB_l {D : Dk} (h : DkOk D) (hl : D.l.length ≤ 1000000) : lenB D.l ≤ 1099511627776 := by
 have hx : ∀ y ∈ D.l, y.2.length ≤ 1048576 := fun y hy => by
  obtain ⟨k, hk⟩ := List.getElem?_of_mem hy
  have h1 := h.len (k + 1)
  rw [List.take_add_one, hk] at h1
  have h1 : (lenB ((D.l.take k ++ [y]).foldl lay D.safe) : Int) ≤ D.room := h1
  rw [List.foldl_append] at h1
  have h2 := getB_len (foldl_nodup (D.l.take k) h.nd) y
  have h1 : (lenB (lay ((D.l.take k).foldl lay D.safe) y) : Int) ≤ D.room := h1
  have h3 := h.r
  omega
 have := lenB_le hx
 have h2 := Nat.mul_le_mul_right 1048576 hl
 omega
abbrev Nf (N F : Nat → Prop) : Nat → Prop := fun i => ¬ F i ∧ N i
section
variable {N F F' : Nat → Prop} {w w' v v' : World} {s1 s2 s3 : Sl} {T T' : Tb} {seed cap : Int} {t a b : Nat}
theorem rt_turn (hR : RT (Bx (Nf N F) a b) w T' s1 s2 s3) (ht : Turned F F' w w') : RT (Bx (Nf N F') a b) w' T' s1 s2 s3 :=
 hR.same fun i hp hi => ⟨ht.mod.same i hi hp.1.1, ⟨fun q => (ht.sub i q).elim hp.1.1 (by omega), hp.1.2⟩, hp.2⟩
theorem TF.fw (h : TF F w t seed cap T) (hN : Fw N w) : Fw (Nf N F) w := fun i hi => ⟨fun q => by have := h.lt q; omega, hN i hi⟩
theorem TF.okt (h : TF F w t seed cap T) {m n : Nat} (hi : Iv m n T) (hm : m ≤ 400000) : Okt T := by
 have h1 := h.len
 exact ⟨h.ok, mD_few (by have := hi.m; omega), h.good, by omega⟩
def DoRes (N F : Nat → Prop) (w : World) (t : Nat) (seed cap : Int) (m n : Nat) (e : Ending) (w' : World) : Prop :=
 ∃ (F' : Nat → Prop) (T' : Tb) (s1' s2' s3' : Sl), e = .returned (.tuple #[tvR seed cap T'.1 s1' s2' s3', .bool true]) ∧ TF F' w' t seed cap T' ∧ RT (Nf N F') w' T' s1' s2' s3' ∧ Turned F F' w w' ∧ Iv m n T'
end
end Go.Proofs.YtbnmglonbhdcbaaGreatDoor
namespace Go.Proofs.YtbnmglonbhdcbaaGreatDoor
open Go Go.Vc Go.RowKit Go.Proofs Go.Chk Go.Runs Go.Code
section
variable {N F F' : Nat → Prop} {w w' v v' : World} {s1 s2 s3 : Sl} {T T' : Tb} {seed cap : Int} {t a b : Nat}
theorem tfPin_spec (h : TF F w t seed cap T) (hp : ∀ y ∈ T.2, -1000000000 ≤ y.2.2.2 ∧ y.2.2.2 ≤ 1000000000) (p : Po) :
  Calls Tryz.prog n_table_Table_Pin #[.pointer (some ⟨t, 0, none⟩), pv p] w fun e w' => e = .returned (.int .i64 (pinE T.2 p).2) ∧ TRes F w t seed cap (T.1, (pinE T.2 p).1) w' := by
 obtain ⟨st, d, r, sl, its, g1, e, rfl⟩ := h
 rw [← e] at hp ⊢
 refine (Pin_spec g1 (fun y hy => hp _ (List.mem_map.2 ⟨y, hy, rfl⟩)) p).mono ?_
 rintro e w' ⟨rfl, hl⟩
 exact ⟨rfl, tf_of hl⟩
theorem tfUnpin_spec (h : TF F w t seed cap T) (hp : ∀ y ∈ T.2, -1000000000 ≤ y.2.2.2 ∧ y.2.2.2 ≤ 1000000000) (p : Po) :
  Calls Tryz.prog n_table_Table_Unpin #[.pointer (some ⟨t, 0, none⟩), pv p] w fun e w' => e = .returned (.int .i64 (unpinE T.2 p).2) ∧ TRes F w t seed cap (T.1, (unpinE T.2 p).1) w' := by
 obtain ⟨st, d, r, sl, its, g1, e, rfl⟩ := h
 rw [← e] at hp ⊢
 refine (Unpin_spec g1 (fun y hy => hp _ (List.mem_map.2 ⟨y, hy, rfl⟩)) p).mono ?_
 rintro e w' ⟨rfl, hl⟩
 exact ⟨rfl, tf_of hl⟩
theorem rFew_spec {P : Nat → Prop} {s : Sl} {b : List Int} (h : RY P w s b) : Calls Tryz.prog n_ref06_Few #[.slice s.a s.n s.c, .int .i64 20] w fun e w' => (∃ s' : Sl, e = .returned (.slice s'.a s'.n s'.c) ∧ RY P w s' (b.take 20)) ∧ w' = w := by
 apply (ref06_Few.vc (a0 := s))
 have hn := h.len
 have hc := h.c
 refine Br.mk (fun q => ?_) (fun q => ?_)
 ·simp only [decide_eq_true_eq] at q
  exact ⟨by omega, by omega, ⟨_, rfl, h.cut (m := 20) (by omega) (by omega)⟩, rfl⟩
 ·simp only [decide_eq_false_iff_not] at q
  exact ⟨⟨s, rfl, by rw [List.take_of_length_le (by omega)]; exact h⟩, rfl⟩
theorem fin_do {B : Nat} {m n : Nat} {g : Nat} {c : Array Value} {w30 : World} (hF : TF F w t seed cap T) (x : Ext w v) (hR : RT (Bx (Nf N F) w.heap.size B) v T' s1 s2 s3) (hB : w.heap.size ≤ g ∧ g < B) (hBv : B ≤ v.heap.size) (hr : TRes F v t seed cap T' w') (hi : Iv m n T') (e : w30 = w'.setRow g c) :
  DoRes N F w t seed cap m n (.returned (.tuple #[tvR seed cap T'.1 s1 s2 s3, .bool true])) w30 := by
 obtain ⟨F', h', ht⟩ := hr
 have h1 : Turned F F' w w' := (Turned.of_ext x).trans ht
 have hg : ∀ i, F' i → i ≠ g := fun i hf q => by
  rcases ht.sub i hf with q2 | q2
  ·have := hF.lt q2; omega
  ·omega
 refine ⟨F', T', s1, s2, s3, rfl, h'.same fun i hi => by rw [e, setRow_other _ _ _ _ (hg i hi)], ((rt_turn hR ht).box e hB).out, ⟨⟨by rw [e]; exact h1.mod.os, by rw [e]; exact h1.mod.tape, by rw [e]; exact h1.mod.output, by rw [e]; simpa using h1.mod.size, fun i hi hn => ?_⟩, h1.sub⟩, hi⟩
 rw [e, setRow_other _ _ _ _ (by omega)]
 exact h1.mod.same i hi hn
theorem tr_keep (hF : TF F w t seed cap T) (hr : TRes F v t seed cap T' w') {j : Nat} (hj : w.heap.size ≤ j) (hjv : j < v.heap.size) : w'.heap[j]? = v.heap[j]? := by
 obtain ⟨F', h', ht⟩ := hr
 exact ht.mod.same j hjv fun q => by have := hF.lt q; omega
end
end Go.Proofs.YtbnmglonbhdcbaaGreatDoor
namespace Go.Proofs.YtbnmglonbhdcbaaGreatDoor
open Go Go.Vc Go.RowKit Go.Proofs Go.Chk Go.Runs Go.Code
set_option maxRecDepth 100000 in
theorem does12_spec {N F : Nat → Prop} {w : World} {s1 s2 s3 : Sl} {T : Tb} {seed cap : Int} {t m n : Nat} (hF : TF F w t seed cap T) (hR : RT (Nf N F) w T s1 s2 s3) (hN : Fw N w) (hi : Iv m n T) (hm : m ≤ 100000) (hn : n ≤ 1000) (hcap : inI cap)
  (d : Dd) (hd : DdOk w d) (hdF : d.y ≠ [] → ∀ g, d.t.blk = some g → Nf N F g) :
  Calls Tryz.prog n_law12_does #[.pointer (some ⟨t, 0, none⟩), tvR seed cap T.1 s1 s2 s3, .agg #[.int .i64 d.k, .int .i64 d.px, .int .i64 d.pz, .int .i64 d.cx, .int .i64 d.cy, .int .i64 d.cz, .int .i64 d.b, .int .i64 d.n, .slice d.t.a d.t.n d.t.c]] w (DoRes N F w t seed cap (m + 17) (n + 1)) := by
 apply (law12_does.vc (a1_5 := s1) (a1_6 := s2) (a1_7 := s3) (a2_8 := d.t))
 have hok := hF.okt hi (by omega)
 have hlen := hF.len
 have hmD := hi.m
 obtain ⟨ik, ipx, ipz, icx, icy, icz, ib, inn⟩ := hd.i
 intro w0 e0 w1 e1 w2 e2
 have x2 : Ext w w2 := (((Ext.rfl' _).of_alloc e0).of_alloc e1).of_alloc e2
 have z0 : w0.heap.size = w.heap.size + 1 := by rw [e0]; simp
 have z1 : w1.heap.size = w.heap.size + 2 := by rw [e1]; simp [z0]
 have z2 : w2.heap.size = w.heap.size + 3 := by rw [e2]; simp [z1]
 have rt2 : Row w2 w.heap.size [.int .i64 seed, .int .i64 cap, .int .i64 T.1.room, .int .i64 T.1.fails, .int .i64 T.1.wait, .slice s1.a s1.n s1.c, .slice s2.a s2.n s2.c, .slice s3.a s3.n s3.c] 90 := (by rw [e0]; exact Row.new w [_, _, _, _, _, _, _, _] _ : Row w0 w.heap.size _ 90).ext (((Ext.rfl' _).of_alloc e1).of_alloc e2)
 clear e0 e1 e2
 refine (rPos_spec (d.px, d.pz) ⟨ipx, ipz⟩ w2).mono ?_
 rintro e w3 ⟨rfl, x3⟩
 have z3 := x3.size
 refine ⟨_, _, rfl, x3.heap (by omega), x3.heap (by omega), x3.heap (by omega), fun w6 e6 w7 e7 => ?_⟩
 have x7 : Ext w3 w7 := ((Ext.rfl' _).of_alloc e6).of_setRow e7 (Nat.le_refl _)
 have z7 : w7.heap.size = w3.heap.size + 1 := by rw [e7, e6]; simp
 clear e6 e7
 refine (rCell_spec (d.cx, d.cy, d.cz) ⟨icx, icy, icz⟩ w7).mono ?_
 rintro e w8 ⟨rfl, x8⟩
 have z8 := x8.size
 have okc := cellK_ok (d.cx, d.cy, d.cz)
 refine ⟨_, _, _, rfl, x8.heap (by omega), x8.heap (by omega), x8.heap (by omega), x8.heap (by omega), fun w12 e12 w13 e13 => ?_⟩
 have x13 : Ext w8 w13 := ((Ext.rfl' _).of_alloc e12).of_setRow e13 (Nat.le_refl _)
 have z13 : w13.heap.size = w8.heap.size + 1 := by rw [e13, e12]; simp
 have r13 : Row w13 w8.heap.size [.int .i64 (cellK (d.cx, d.cy, d.cz)).1, .int .i64 (cellK (d.cx, d.cy, d.cz)).2.1, .int .i64 (cellK (d.cx, d.cy, d.cz)).2.2] 26 := by rw [e13]; exact Row.set (by rw [e12]; exact Row.new w8 [_, _, _] _) _
 clear e12 e13
 have x013 := x2.tr (x3.tr (x7.tr (x8.tr x13)))
 have hdy : RY (Bx (Nf N F) w.heap.size w13.heap.size) w13 d.t d.y := by
  refine ⟨RdK.ext hd.t x013, hd.y, fun hne g hg => ⟨hdF hne g hg, .inl ?_⟩, hd.c⟩
  exact RdK.blk_lt hd.t (by decide) (by simpa using hne) hg
 refine (rFew_spec hdy).mono ?_
 rintro e w14 ⟨⟨s15, rfl, h15⟩, hw⟩
 subst hw
 have rt14 := rt2.ext (x3.tr (x7.tr (x8.tr x13)))
 generalize cellK (d.cx, d.cy, d.cz) = c at *
 generalize posK (d.px, d.pz) = p at *
 have hF14 := hF.ext x013
 have hR14 := hR.into x013 w14.heap.size
 have hP14 : Fw (Bx (Nf N F) w.heap.size w14.heap.size) w14 := (TF.fw hF hN).bx x013 (Nat.le_refl _)
 have iv' : Iv (m + 17) (n + 1) T := hi.mono (by omega) (by omega)
 refine ⟨s15, rfl, rfl, rfl, rfl, rfl, rfl, ?_⟩
 have arm : ∀ {w16 : World} {T' : Tb} {code : Int} {sa sb sc : Sl} {tbl : FuncId} {args : Array Value}, Ext w14 w16 → RT (Bx (Nf N F) w.heap.size w14.heap.size) w16 T' sa sb sc → Iv (m + 17) (n + 1) T' → (∀ v, TF F v t seed cap T → Calls Tryz.prog tbl args v (fun e v' => e = .returned (.int .i64 code) ∧ TRes F v t seed cap T' v')) →
   ∀ w26 : World, w26 = w16.alloc (.cells #[.int .i64 0, .int .i64 0, .int .i64 0, .int .i64 0, .int .i64 0, .slice none 0 0, .slice none 0 0, .slice none 0 0] 90) →
   ∀ w27 : World, w27 = w26.setRow w16.heap.size #[.int .i64 seed, .int .i64 cap, .int .i64 T'.1.room, .int .i64 T'.1.fails, .int .i64 T'.1.wait, .slice sa.a sa.n sa.c, .slice sb.a sb.n sb.c, .slice sc.a sc.n sc.c] →
   Calls Tryz.prog tbl args w27.drew (fun e w28 => ∃ (x29 : Int), e = .returned (.int .i64 x29) ∧ w28.heap[w.heap.size]? = w27.drew.heap[w.heap.size]? ∧ w28.heap[w0.heap.size]? = w27.drew.heap[w0.heap.size]? ∧ w28.heap[w1.heap.size]? = w27.drew.heap[w1.heap.size]? ∧ w28.heap[w3.heap.size]? = w27.drew.heap[w3.heap.size]? ∧ w28.heap[w8.heap.size]? = w27.drew.heap[w8.heap.size]? ∧ w28.heap[w16.heap.size]? = w27.drew.heap[w16.heap.size]? ∧
   LoadL w28 (some ⟨w16.heap.size, 0, none⟩) 0 [.int .i64 seed, .int .i64 cap, .int .i64 T'.1.room, .int .i64 T'.1.fails, .int .i64 T'.1.wait, .slice sa.a sa.n sa.c, .slice sb.a sb.n sb.c, .slice sc.a sc.n sc.c] ∧ ∀ w30 : World, w30 = w28.setRow w1.heap.size #[.int .i64 seed, .int .i64 cap, .int .i64 T'.1.room, .int .i64 T'.1.fails, .int .i64 T'.1.wait, .slice sa.a sa.n sa.c, .slice sb.a sb.n sb.c, .slice sc.a sc.n sc.c] →
   DoRes N F w t seed cap (m + 17) (n + 1) (.returned (.tuple #[tvR seed cap T'.1 sa sb sc, .bool ((x29 : Int) == code)])) w30) := by
  intro w16 T' code sa sb sc tbl args x16 h16 hiv hT w26 e26 w27 e27
  have x27 : Ext w16 w27 := ((Ext.rfl' _).of_alloc e26).of_setRow e27 (Nat.le_refl _)
  have z27 : w27.heap.size = w16.heap.size + 1 := by rw [e27, e26]; simp
  have r27 : Row w27 w16.heap.size [.int .i64 seed, .int .i64 cap, .int .i64 T'.1.room, .int .i64 T'.1.fails, .int .i64 T'.1.wait, .slice sa.a sa.n sa.c, .slice sb.a sb.n sb.c, .slice sc.a sc.n sc.c] 90 := by rw [e27]; exact Row.set (by rw [e26]; exact Row.new w16 [_, _, _, _, _, _, _, _] _) _
  clear e26 e27
  have xd := x27.tr (Ext.dr w27)
  have z16 := x16.size
  have zd : w27.drew.heap.size = w27.heap.size := rfl
  have xw := x013.tr (x16.tr xd)
  refine (hT w27.drew (hF.ext xw)).mono ?_
  rintro e w28 ⟨rfl, hr⟩
  have kp : ∀ {j}, w.heap.size ≤ j → j < w27.drew.heap.size → w28.heap[j]? = w27.drew.heap[j]? := fun h1 h2 => tr_keep hF hr h1 h2
  refine ⟨_, rfl, kp (by omega) (by omega), kp (by omega) (by omega), kp (by omega) (by omega), kp (by omega) (by omega), kp (by omega) (by omega), kp (by omega) (by omega), ((r27.ext (Ext.dr w27)).same (kp (by omega) (by omega))).loadL (fun j hj => by rw [Nat.zero_add]), fun w30 e30 => ?_⟩
  rw [show ((code : Int) == code) = true by simp]
  exact fin_do hF xw (h16.ext xd) ⟨by omega, by omega⟩ (by omega) hr hiv e30
 have ivT : ∀ {R : Tb × Int}, Iv (m + 1) n R.1 → Iv (m + 17) (n + 1) R.1 := fun h => h.mono (by omega) (by omega)
 have hz1 : T.1.l.length ≤ 100000 := by unfold mD at hmD; omega
 have hTi : Iv m n (T.1, T.2) := hi
 refine Br.mk (fun _ => (rLoad12_spec hR14 hP14 hok (by omega) hcap p).mono ?_) (fun _ => ?_)
 ·rintro e w16 ⟨sa, sb, sc, rfl, h16, x16⟩
  have z16 := x16.size
  exact ⟨_, _, _, _, _, sa, sb, sc, _, rfl, x16.heap (by omega), x16.heap (by omega), x16.heap (by omega), x16.heap (by omega), x16.heap (by omega), arm x16 h16 (ivT (iv_ld hTi seed cap p)) fun v hv => tfLoad_spec hv (by omega) p⟩
 refine Br.mk (fun _ => (rUnload12_spec hR14 hP14 hok p).mono ?_) (fun _ => ?_)
 ·rintro e w16 ⟨sa, sb, sc, rfl, h16, x16⟩
  have z16 := x16.size
  exact ⟨_, _, _, _, _, sa, sb, sc, _, rfl, x16.heap (by omega), x16.heap (by omega), x16.heap (by omega), x16.heap (by omega), x16.heap (by omega), arm x16 h16 (ivT (iv_unld hTi p)) fun v hv => tfUnload_spec hv (by omega) p⟩
 refine Br.mk (fun _ => (rFlush12_spec hR14 hP14 hok p).mono ?_) (fun _ => ?_)
 ·rintro e w16 ⟨sa, sb, sc, rfl, h16, x16⟩
  have z16 := x16.size
  exact ⟨_, _, _, _, _, sa, sb, sc, _, rfl, x16.heap (by omega), x16.heap (by omega), x16.heap (by omega), x16.heap (by omega), x16.heap (by omega), arm x16 h16 (ivT (iv_fl hTi p)) fun v hv => tfFlush_spec hv (by omega) p⟩
 refine Br.mk (fun _ => (rFlushAll12_spec hR14 hP14 hok (by omega) (by omega)).mono ?_) (fun _ => ?_)
 ·rintro e w61 ⟨sa, sb, sc, rfl, h61, x61⟩
  have z61 := x61.size
  refine ⟨_, _, _, _, _, sa, sb, sc, _, _, rfl, x61.heap (by omega), x61.heap (by omega), x61.heap (by omega), x61.heap (by omega), x61.heap (by omega), fun w72 e72 w73 e73 => ?_⟩
  have x73 : Ext w61 w73 := ((Ext.rfl' _).of_alloc e72).of_setRow e73 (Nat.le_refl _)
  have z73 : w73.heap.size = w61.heap.size + 1 := by rw [e73, e72]; simp
  clear e72 e73
  have xw := x013.tr (x61.tr x73)
  refine (tfFlushAll_spec (hF.ext xw) (by omega)).mono ?_
  rintro e w74 ⟨rfl, hr⟩
  have kp : ∀ {j}, w.heap.size ≤ j → j < w73.heap.size → w74.heap[j]? = w73.heap[j]? := fun h1 h2 => tr_keep hF hr h1 h2
  refine ⟨_, _, rfl, kp (by omega) (by omega), kp (by omega) (by omega), kp (by omega) (by omega), kp (by omega) (by omega), kp (by omega) (by omega), kp (by omega) (by omega), yes (by simp) fun w77 e77 => ?_⟩
  rw [show ((flallE T.1 T.2).2.2 == (flallE T.1 T.2).2.2) = true by simp]
  exact fin_do hF xw (h61.ext x73) ⟨by omega, by omega⟩ (by omega) hr ((iv_flall hTi).mono (by omega) (by omega)) e77
 have hpin : ∀ y ∈ T.2, -1000000000 ≤ y.2.2.2 ∧ y.2.2.2 ≤ 1000000000 := fun y hy => by have := hi.p y hy; omega
 have hpin2 : ∀ y ∈ T.2, 0 ≤ y.2.2.2 ∧ y.2.2.2 ≤ 1000000 := fun y hy => by have := hi.p y hy; omega
 have pp1 : pinR T p 1 = ((T.1, (pinE T.2 p).1), (pinE T.2 p).2) := by unfold pinR; rw [if_pos (by decide)]
 have pp2 : pinR T p (-1) = ((T.1, (unpinE T.2 p).1), (unpinE T.2 p).2) := by unfold pinR; rw [if_neg (by decide)]
 refine Br.mk (fun _ => (rPin12_spec hR14 hP14 hok p 1 (.inl rfl) hpin2).mono ?_) (fun _ => ?_)
 ·rintro e w16 ⟨sa, sb, sc, rfl, h16, x16⟩
  rw [pp1] at h16 ⊢
  have z16 := x16.size
  exact ⟨_, _, _, _, _, sa, sb, sc, _, rfl, x16.heap (by omega), x16.heap (by omega), x16.heap (by omega), x16.heap (by omega), x16.heap (by omega), arm x16 h16 ((iv_pin hTi p).1.mono (by omega) (by omega)) fun v hv => tfPin_spec hv hpin p⟩
 refine Br.mk (fun _ => (rPin12_spec hR14 hP14 hok p (-1) (.inr rfl) hpin2).mono ?_) (fun _ => ?_)
 ·rintro e w16 ⟨sa, sb, sc, rfl, h16, x16⟩
  rw [pp2] at h16 ⊢
  have z16 := x16.size
  exact ⟨_, _, _, _, _, sa, sb, sc, _, rfl, x16.heap (by omega), x16.heap (by omega), x16.heap (by omega), x16.heap (by omega), x16.heap (by omega), arm x16 h16 ((iv_pin hTi p).2.mono (by omega) (by omega)) fun v hv => tfUnpin_spec hv hpin p⟩
 refine ⟨fun _ wr => wr = w14, ?_, ?_⟩
 ·refine Br.mk (fun _ => ⟨rfl, rfl, rfl, rfl, rfl, rfl⟩) (fun _ => Br.mk (fun _ => ⟨rfl, rfl, rfl, rfl, rfl, rfl⟩) (fun _ => Br.mk (fun _ => ⟨rfl, rfl, rfl, rfl, rfl, rfl⟩) (fun _ => ⟨rfl, rfl, rfl, rfl, rfl, rfl⟩)))
 rintro us110 b111 w112 hw
 subst hw
 refine Br.mk (fun _ => (rSet12_spec hR14 hP14 hok c okc d.b).mono ?_) (fun _ => ?_)
 ·rintro e w16 ⟨sa, sb, sc, rfl, h16, x16⟩
  have z16 := x16.size
  exact ⟨_, _, _, _, _, sa, sb, sc, _, rfl, x16.heap (by omega), x16.heap (by omega), x16.heap (by omega), x16.heap (by omega), x16.heap (by omega), arm x16 h16 ((iv_set hTi c d.b).mono (by omega) (by omega)) fun v hv => tfSet_spec hv c okc d.b⟩
 have hC3 : ∀ {v}, Ext w112 v → RC (Bx (Nf N F) w.heap.size w112.heap.size) v s3 T.2 := fun x => (hR14.ext x).l
 have zz := x013.size
 refine Br.mk (fun _ => ?_) (fun _ => Br.mk (fun _ => ?_) (fun _ => Br.mk (fun _ => ?_) (fun _ => ?_)))
 ·have hby : ∀ {P : Nat → Prop}, RY P w112 s15 (d.y.take 20) → (d.y.take 20).length ≤ 20 := fun _ => by rw [List.length_take]; omega
  have hl20 := hby h15
  refine (rSave9_spec hR14.d hP14 hF.ok (mD_few (by omega)) 0 s15 (d.y.take 20) h15 (by omega)).mono ?_
  rintro e w16 ⟨sa, sb, rfl, h16, x16⟩
  have z16 := x16.size
  have hms := mD_save T.1 0 (d.y.take 20)
  refine ⟨_, _, _, sa, sb, _, rfl, x16.heap (by omega), x16.heap (by omega), x16.heap (by omega), x16.heap (by omega), x16.heap (by omega), fun w26 e26 w27 e27 w28 e28 => ?_⟩
  have x27 : Ext w16 w27 := ((Ext.rfl' _).of_alloc e26).of_setRow e27 (Nat.le_refl _)
  have z27 : w27.heap.size = w16.heap.size + 1 := by rw [e27, e26]; simp
  clear e26 e27
  have r28 : Row w28 w.heap.size [.int .i64 seed, .int .i64 cap, .int .i64 (svS T.1 0 (d.y.take 20)).1.room, .int .i64 (svS T.1 0 (d.y.take 20)).1.fails, .int .i64 (svS T.1 0 (d.y.take 20)).1.wait, .slice sa.a sa.n sa.c, .slice sb.a sb.n sb.c, .slice s3.a s3.n s3.c] 90 := by rw [e28]; exact Row.set ((rt14.ext x16).ext x27) _
  have h27 : RT (Bx (Nf N F) w.heap.size w112.heap.size) w27 ((svS T.1 0 (d.y.take 20)).1, T.2) sa sb s3 := ⟨h16.ext x27, hC3 (x16.tr x27)⟩
  have h28 := h27.box e28 ⟨Nat.le_refl _, by omega⟩
  have hy28 : RY (Bx (Nf N F) w.heap.size w112.heap.size) w28 s15 (d.y.take 20) := (h15.ext (x16.tr x27)).same fun i hp _ => ⟨by rw [e28, setRow_other _ _ _ _ (by have := hp.2; omega)], hp⟩
  have x28 : Ext w w28 := (x013.tr (x16.tr x27)).of_setRow e28 (Nat.le_refl _)
  have z28 : w28.heap.size = w27.heap.size := by rw [e28]; simp
  clear e28
  have xd := Ext.dr w28
  have zd : w28.drew.heap.size = w28.heap.size := rfl
  refine (tfKeep_spec (hF.ext (x28.tr xd)) (by omega) s15 (d.y.take 20) (hy28.ext xd).r hy28.y (by omega)).mono ?_
  rintro e w38 ⟨rfl, hr⟩
  have kp : ∀ {j}, w.heap.size ≤ j → j < w28.drew.heap.size → w38.heap[j]? = w28.drew.heap[j]? := fun h1 h2 => tr_keep hF hr h1 h2
  refine ⟨_, rfl, kp (by omega) (by omega), kp (by omega) (by omega), kp (by omega) (by omega), kp (by omega) (by omega), kp (by omega) (by omega), kp (by omega) (by omega), ((r28.ext xd).same (kp (by omega) (by omega))).loadL (fun j hj => by rw [Nat.zero_add]), fun w40 e40 => ?_⟩
  rw [show ((svS T.1 0 (d.y.take 20)).2 == (svS T.1 0 (d.y.take 20)).2) = true by simp]
  exact fin_do hF (x28.tr xd) (h28.ext xd) ⟨by omega, by omega⟩ (by omega) hr ⟨by simp only; omega, (fun e he => iv'.p e he), iv'.nod⟩ e40
 ·have hab := around_bd d.n 5 (by decide)
  refine (around_spec d.n 5 w112 inn (by decide) (by unfold inI; omega)).mono ?_
  rintro e w150 ⟨rfl, hw⟩
  subst hw
  have ew : IntKind.wrap .i64 (around d.n 5 - 2) = around d.n 5 - 2 := wrap_in (by unfold inI; omega)
  refine ⟨_, rfl, rfl, rfl, rfl, rfl, rfl, ?_⟩
  rw [ew]
  refine (rFail_spec hR14.d (n := around d.n 5 - 2) (by unfold inI; omega)).mono ?_
  rintro e w16 ⟨rfl, h16, x16⟩
  have z16 := x16.size
  refine ⟨_, _, _, s1, s2, rfl, x16.heap (by omega), x16.heap (by omega), x16.heap (by omega), x16.heap (by omega), x16.heap (by omega), fun w28 e28 => ?_⟩
  have h27 : RT (Bx (Nf N F) w.heap.size w150.heap.size) w16 (failD T.1 (around d.n 5 - 2), T.2) s1 s2 s3 := ⟨h16, hC3 x16⟩
  have h28 := h27.box e28 ⟨Nat.le_refl _, by omega⟩
  have x28 : Ext w w28 := (x013.tr x16).of_setRow e28 (Nat.le_refl _)
  have z28 : w28.heap.size = w16.heap.size := by rw [e28]; simp
  clear e28
  obtain ⟨st, dd, f1, f2, f3⟩ := tfDisk (hF.ext x28)
  refine ⟨_, f1, nnP rfl (nnP rfl (nnP rfl ⟨_, f2, (f3 (around d.n 5 - 2) (by unfold inI; omega)).mono ?_⟩))⟩
  rintro e w38 ⟨rfl, hr⟩
  have kp : ∀ {j}, w.heap.size ≤ j → j < w28.heap.size → w38.heap[j]? = w28.heap[j]? := fun h1 h2 => tr_keep hF hr h1 h2
  refine ⟨rfl, kp (by omega) (by omega), kp (by omega) (by omega), kp (by omega) (by omega), kp (by omega) (by omega), kp (by omega) (by omega), fun w40 e40 => ?_⟩
  exact fin_do hF x28 h28 ⟨by omega, by omega⟩ (by omega) hr ⟨by rw [mD_fail]; omega, (fun e he => iv'.p e he), iv'.nod⟩ e40
 ·refine (around_spec d.n 100 w112 inn (by decide) (by unfold inI; omega)).mono ?_
  rintro e w150 ⟨rfl, hw⟩
  subst hw
  refine ⟨_, rfl, rfl, rfl, rfl, rfl, rfl, (rCrash12_spec hR14 hP14 hok (lenB_l hF.ok (by omega)) (around d.n 100)).mono ?_⟩
  rintro e w16 ⟨sa, sb, sc, rfl, h16, x16⟩
  have z16 := x16.size
  have hmc := mD_crash T.1 (around d.n 100)
  exact ⟨_, _, _, _, _, sa, sb, sc, _, rfl, x16.heap (by omega), x16.heap (by omega), x16.heap (by omega), x16.heap (by omega), x16.heap (by omega), arm x16 h16 ⟨by simp only; omega, (fun e he => by cases he), List.nodup_nil⟩ fun v hv => tfCrash_spec hv (by omega) (lenB_l hF.ok (by omega)) _⟩
 ·have xd := Ext.dr w112
  have zd : w112.drew.heap.size = w112.heap.size := rfl
  refine (tfAt_spec (hF14.ext xd) c okc).mono ?_
  rintro e w38 ⟨rfl, x38⟩
  have z38 := x38.size
  have r38 := (rt14.ext xd).ext x38
  refine ⟨_, rfl, x38.heap (by omega), x38.heap (by omega), x38.heap (by omega), x38.heap (by omega), x38.heap (by omega), ((r13.ext xd).ext x38).loadL (fun j hj => by rw [Nat.zero_add]), r38.loadL (fun j hj => by rw [Nat.zero_add]), r38.loadL (fun j hj => by rw [Nat.zero_add]), (rAt12_spec ((hR14.ext xd).ext x38) hok c okc).mono ?_⟩
  rintro e w39 ⟨rfl, x39⟩
  refine ⟨_, rfl, x39.heap (by omega), x39.heap (by omega), x39.heap (by omega), x39.heap (by omega), x39.heap (by omega), (r38.ext x39).loadL (fun j hj => by rw [Nat.zero_add]), fun w40 e40 => ?_⟩
  rw [show (atE T.2 c == atE T.2 c) = true by simp]
  have xx := xd.tr (x38.tr x39)
  exact fin_do hF x013 hR14 ⟨by omega, by omega⟩ (Nat.le_refl _) ⟨F, hF14.ext xx, Turned.of_ext xx⟩ iv' e40
end Go.Proofs.YtbnmglonbhdcbaaGreatDoor
namespace Go.Proofs.YtbnmglonbhdcbaaGreatDoor
open Go Go.Vc Go.RowKit Go.Proofs Go.Chk Go.Runs Go.Code
section
variable {N F F' : Nat → Prop} {w w' v v' : World} {s1 s2 s3 : Sl} {T T' : Tb} {seed cap : Int} {t a b : Nat}
theorem tfHere_spec (h : TF F w t seed cap T) : Calls Tryz.prog n_table_Table_Here #[.pointer (some ⟨t, 0, none⟩)] w fun e w' => ∃ s' : Sl, e = .returned (.slice s'.a s'.n s'.c) ∧ OwnK w.heap.size tPo 2 w' s' (T.2.map fun e => [.int .i64 e.1.1, .int .i64 e.1.2]) ∧ Ext w w' := by
 obtain ⟨st, d, r, sl, its, g1, e, rfl⟩ := h
 rw [← e]
 exact Here_spec g1
theorem tfPins_spec (h : TF F w t seed cap T) (p : Po) : Calls Tryz.prog n_table_Table_Pins #[.pointer (some ⟨t, 0, none⟩), pv p] w fun e w' => e = .returned (.int .i64 (pinsE T.2 p)) ∧ Ext w w' := by
 obtain ⟨st, d, r, sl, its, g1, e, rfl⟩ := h
 rw [← e]
 exact Pins_spec g1 p
theorem tfCap_spec (h : TF F w t seed cap T) : Calls Tryz.prog n_table_Table_Cap #[.pointer (some ⟨t, 0, none⟩)] w fun e w' => e = .returned (.int .i64 cap) ∧ Ext w w' := by
 obtain ⟨st, d, r, sl, its, g1, e, rfl⟩ := h
 refine (Cap_spec g1).mono ?_
 rintro e w' ⟨rfl, rfl⟩
 exact ⟨rfl, Ext.rfl' _⟩
theorem dirty_at {l : List En} (hn : nodL l) {e : En} (he : e ∈ l) : dirtyE l e.1 = e.2.2.1 ∧ pinsE l e.1 = e.2.2.2 := by
 obtain ⟨k, hk, hf⟩ := first_here hn he
 unfold dirtyE pinsE
 rw [hf, if_pos (by omega), if_pos (by omega), Int.toNat_natCast, hk]
 exact ⟨rfl, rfl⟩
set_option maxRecDepth 100000 in
theorem like12_spec (hF : TF F w t seed cap T) (hR : RT (Nf N F) w T s1 s2 s3) (hN : Fw N w) (hok : Okt T) (hnod : nodL T.2) (hm : mD T.1 ≤ 400000) (c0 : Ce) (hc0 : okC c0) :
  Calls Tryz.prog n_law12_like #[.pointer (some ⟨t, 0, none⟩), tvR seed cap T.1 s1 s2 s3, cev c0] w fun e w' => e = .returned (.bool true) ∧ Ext w w' := by
 apply (law12_like.vc (a1_5 := s1) (a1_6 := s2) (a1_7 := s3))
 have hlen := hF.len
 have hl1 : T.1.l.length ≤ 1000000 := by unfold mD at hm; omega
 intro w0 e0 w1 e1
 have x1 : Ext w w1 := ((Ext.rfl' _).of_alloc e0).of_alloc e1
 have z0 : w0.heap.size = w.heap.size + 1 := by rw [e0]; simp
 have z1 : w1.heap.size = w.heap.size + 2 := by rw [e1]; simp [z0]
 have rt1 : Row w1 w.heap.size [.int .i64 seed, .int .i64 cap, .int .i64 T.1.room, .int .i64 T.1.fails, .int .i64 T.1.wait, .slice s1.a s1.n s1.c, .slice s2.a s2.n s2.c, .slice s3.a s3.n s3.c] 90 := (by rw [e0]; exact Row.new w [_, _, _, _, _, _, _, _] _ : Row w0 w.heap.size _ 90).ext ((Ext.rfl' _).of_alloc e1)
 clear e0 e1
 obtain ⟨its, hits, hms⟩ := hR.l
 have hn := hits.n
 have hil : its.length = T.2.length := by rw [← hms, List.length_map]
 have ld1 : ∀ {v : World}, Ext w1 v → LoadL v (some ⟨w.heap.size, 1, none⟩) 0 [.int .i64 cap] := fun x => (rt1.ext x).loadL fun j hj => by simp at hj; subst hj; rfl
 have ld7 : ∀ {v : World}, Ext w1 v → LoadL v (some ⟨w.heap.size, 7, none⟩) 0 [.slice s3.a s3.n s3.c] := fun x => (rt1.ext x).loadL fun j hj => by simp at hj; subst hj; rfl
 refine (tfHere_spec (hF.ext x1)).mono ?_
 rintro e w2 ⟨sH, rfl, hH, x2⟩
 have hHn : sH.n = T.2.length := by have := (OwnK.rd hH (by decide)).n; simpa using this
 have z2 := x2.size
 have xd := Ext.dr w2
 refine ⟨sH, rfl, x2.heap (by omega), x2.heap (by omega), nope (by rw [hHn, hn, hil]; simp) ((tfCap_spec (hF.ext (x1.tr (x2.tr xd)))).mono ?_)⟩
 rintro e w4 ⟨rfl, x4⟩
 have zd : w2.drew.heap.size = w2.heap.size := rfl
 have z4 := x4.size
 have x14 := x2.tr (xd.tr x4)
 refine ⟨_, rfl, x4.heap (by omega), x4.heap (by omega), ld1 x14, ld7 x14, nope (by simp) (nope (by rw [hHn]; simp; omega) ⟨fun n i wr => ∃ j : Nat, i = j ∧ j + n = T.2.length ∧ Ext w4 wr, ⟨T.2.length, rfl, rfl, 0, rfl, by omega, Ext.rfl' _⟩, ?_⟩)⟩
 rintro n us i w10 ⟨j, rfl, hj, x10⟩
 have z10 := x10.size
 have x110 := x14.tr x10
 refine Br.mk (fun hc => ?_) (fun hc => ?_)
 ·simp only [decide_eq_true_eq] at hc
  obtain ⟨e, he⟩ := get_lt (l := T.2) (i := j) (by omega)
  have rl : ∀ {v : World}, Ext w1 v → ∃ y : Ci, y.1 = e ∧ InB s3.a (j : Int) s3.n ∧ (padd s3.a (((j : Nat) : Int).toNat * 5)).isSome = true ∧ ∀ q u, (cw y)[q]? = some u → ld v (padd (padd s3.a (((j : Nat) : Int).toNat * 5)) q) = some u := fun x => by
   obtain ⟨y, h1, -, h2, h3, h4, -⟩ := (hR.ext (x1.tr x)).l.at he
   exact ⟨y, h1, h2, h3, h4⟩
  obtain ⟨y, rfl, hin, hso, hld⟩ := rl x110
  have hem := List.mem_of_getElem? he
  obtain ⟨hdE, hpE⟩ := dirty_at hnod hem
  have p0 : padd (padd (padd s3.a (((j : Nat) : Int).toNat * 5)) 0) 0 = padd s3.a (((j : Nat) : Int).toNat * 5) := by rw [padd_zero, padd_zero]
  refine ⟨hin, nnP hso (nnP (by rw [padd_isSome]; exact hso) ⟨y.1.1.1, y.1.1.2, ?_, fun w14 e14 w15 e15 => ?_⟩)⟩
  ·rw [p0]
   refine LoadL_of fun q u hq => ?_
   rw [Nat.zero_add]
   refine hld q u ?_
   match q, hq with
   | 0, hq => exact hq
   | 1, hq => exact hq
  have x15 : Ext w10 w15 := ((Ext.rfl' _).of_alloc e14).of_setRow e15 (Nat.le_refl _)
  have r15 : Row w15 w10.heap.size [.int .i64 y.1.1.1, .int .i64 y.1.1.2] 42 := by rw [e15]; exact Row.set (by rw [e14]; exact Row.new w10 [_, _] _) _
  clear e14 e15
  have z15 := r15.lt
  have xd15 := Ext.dr w15
  have zd15 : w15.drew.heap.size = w15.heap.size := rfl
  have x1d := x110.tr (x15.tr xd15)
  have hHr : ∀ {v : World}, Ext w2 v → InB sH.a (j : Int) sH.n ∧ LoadL v (padd sH.a (((j : Nat) : Int).toNat * 2)) 0 [.int .i64 y.1.1.1, .int .i64 y.1.1.2] := fun x => by
   have hr := (OwnK.rd hH (by decide)).ext x
   have hm' : (T.2.map fun e => [Value.int .i64 e.1.1, Value.int .i64 e.1.2])[j]? = some [.int .i64 y.1.1.1, .int .i64 y.1.1.2] := by rw [List.getElem?_map, he]; rfl
   refine ⟨hr.inB (by decide) (by omega) (by omega), LoadL_of fun q u hq => ?_⟩
   rw [Nat.zero_add]
   exact hr.at hm' hq
  have x2d : Ext w2 w15.drew := xd.tr (x4.tr (x10.tr (x15.tr xd15)))
  obtain ⟨hinH, hldH⟩ := hHr x2d
  obtain ⟨y', hy', hin2, hso2, hld2⟩ := rl x1d
  refine ⟨hinH, _, _, hldH, nope (by simp) ⟨hin2, nnP hso2 ⟨y.1.2.2.1, by rw [← hy']; exact hld2 3 _ rfl, (tfDirty_spec (hF.ext (x1.tr x1d)) y.1.1).mono ?_⟩⟩⟩
  rintro e w19 ⟨rfl, x19⟩
  have z19 := x19.size
  have x119 := x1d.tr x19
  obtain ⟨y3, hy3, hin3, hso3, hld3⟩ := rl x119
  have one : ∀ {v : World} {y : Ci} {q : Nat} {u : Value}, ld v (padd (padd s3.a (((j : Nat) : Int).toNat * 5)) q) = some u → LoadL v (padd (padd s3.a (((j : Nat) : Int).toNat * 5)) q) 0 [u] := fun h => ldOne h
  rw [hdE]
  have r19 := (r15.ext xd15).ext x19
  refine ⟨_, rfl, x19.heap (by omega), x19.heap (by omega), x19.heap (by omega), ldOne (by rw [← hy3]; exact hld3 3 _ rfl), ld7 x119, r19.loadL (fun q hq => by rw [Nat.zero_add]), (hHr (x2d.tr x19)).2, nope (by simp) ⟨hin3, nnP hso3 ⟨y.1.2.2.2, by rw [← hy3]; exact hld3 4 _ rfl, (tfPins_spec (hF.ext (x1.tr x119)) y.1.1).mono ?_⟩⟩⟩
  rintro e w22 ⟨rfl, x22⟩
  have z22 := x22.size
  have x122 := x119.tr x22
  obtain ⟨y4, hy4, hin4, hso4, hld4⟩ := rl x122
  rw [hpE]
  refine ⟨_, rfl, x22.heap (by omega), x22.heap (by omega), x22.heap (by omega), ldOne (by rw [← hy4]; exact hld4 4 _ rfl), ld7 x122, ldOne (by rw [← hy4]; exact hld4 3 _ rfl), ld7 x122, (r19.ext x22).loadL (fun q hq => by rw [Nat.zero_add]), (hHr (x2d.tr (x19.tr x22))).2, nope (by simp) ⟨n - 1, by omega, rfl, rfl, j + 1, by rw [wrap_in (by unfold inI; omega)]; omega, by omega, x10.tr (x15.tr (xd15.tr (x19.tr x22)))⟩⟩
 ·refine (rCell_spec c0 hc0 w10).mono ?_
  rintro e w24 ⟨rfl, x24⟩
  have z24 := x24.size
  have okc := cellK_ok c0
  refine ⟨_, _, _, rfl, x24.heap (by omega), x24.heap (by omega), ?_⟩
  generalize cellK c0 = c at *
  intro w28 e28 w29 e29
  have x29 : Ext w24 w29 := ((Ext.rfl' _).of_alloc e28).of_setRow e29 (Nat.le_refl _)
  have r29 : Row w29 w24.heap.size [.int .i64 c.1, .int .i64 c.2.1, .int .i64 c.2.2] 26 := by rw [e29]; exact Row.set (by rw [e28]; exact Row.new w24 [_, _, _] _) _
  clear e28 e29
  have z29 := r29.lt
  have x129 := x110.tr (x24.tr x29)
  refine (tfKept_spec (hF.ext (x1.tr x129)) hl1).mono ?_
  rintro e w30 ⟨s31, rfl, h31, hb31, hl31, hc31, -, x30⟩
  have z30 := x30.size
  have x130 := x129.tr x30
  refine ⟨s31, _, rfl, x30.heap (by omega), x30.heap (by omega), x30.heap (by omega), (rLoad9_spec (hR.ext (x1.tr x130)).d ((TF.fw hF hN).ext (x1.tr x130)) hok.d (mD_few (by omega)) 0).mono ?_⟩
  rintro e w33 ⟨s34, rfl, h34, x33⟩
  have z33 := x33.size
  have xd33 := Ext.dr w33
  have zd33 : w33.drew.heap.size = w33.heap.size := rfl
  have x133 := x130.tr (x33.tr xd33)
  refine ⟨s34, _, _, rfl, x33.heap (by omega), x33.heap (by omega), x33.heap (by omega), (tfAt_spec (hF.ext (x1.tr x133)) c okc).mono ?_⟩
  rintro e w37 ⟨rfl, x37⟩
  have z37 := x37.size
  have x137 := x133.tr x37
  refine ⟨_, rfl, x37.heap (by omega), x37.heap (by omega), x37.heap (by omega), (r29.ext (x30.tr (x33.tr (xd33.tr x37)))).loadL (fun q hq => by rw [Nat.zero_add]), (rt1.ext x137).loadL (fun q hq => by rw [Nat.zero_add]), (rAt12_spec (hR.ext (x1.tr x137)) hok c okc).mono ?_⟩
  rintro e w39 ⟨rfl, x39⟩
  have z39 := x39.size
  refine ⟨_, rfl, x39.heap (by omega), x39.heap (by omega), x39.heap (by omega), yes (by simp) (yes (by simp) ((ref06_Same_spec s31 s34 _ _ w39 (h31.ext (x33.tr (xd33.tr (x37.tr x39)))) (h34.ext (xd33.tr (x37.tr x39))).r hb31 h34.y).mono ?_))⟩
  rintro e w41 ⟨rfl, rfl⟩
  exact ⟨_, rfl, rfl, rfl, rfl, by simp, x1.tr (x137.tr x39)⟩
end
end Go.Proofs.YtbnmglonbhdcbaaGreatDoor
namespace Go.Proofs.YtbnmglonbhdcbaaGreatDoor
open Go Go.Vc Go.RowKit Go.Proofs Go.Chk Go.Runs Go.Code
theorem row90 : offT 90 := by decide
set_option maxRecDepth 100000 in
theorem TablePlays_law (seed limit room : Int) (s : Sl) (z : List Dd) (w : World) (hrm : inI room) (hs : RdK w s 9 (z.map dR)) (hz : ∀ d ∈ z, DdOk w d) : Calls Tryz.prog n_law12_TablePlays #[.int .i64 seed, .int .i64 limit, .int .i64 room, .slice s.a s.n s.c] w fun e w' => e = .returned (.bool true) ∧ Ext w w' := by
 apply (law12_TablePlays.vc (a3 := s))
 have hsn := hs.n
 rw [List.length_map] at hsn
 refine (around_spec room 20001 w hrm (by decide) (by unfold inI; omega)).mono ?_
 rintro e w0 ⟨rfl, hw⟩
 subst hw
 generalize around room 20001 = rm at *
 refine ⟨_, rfl, (tfNew_spec seed limit rm w0).mono ?_⟩
 rintro e w2 ⟨t, F0, rfl, hF0, x2, fF0⟩
 refine ⟨_, rfl, nope rfl ((rNew12_spec (P := fun i => ¬ F0 i) seed limit rm w2).mono ?_)⟩
 rintro e w4 ⟨sa0, sb0, sc0, rfl, h4, x4⟩
 have hcap : inI (min (max limit 1) 16) := by unfold inI; omega
 generalize min (max limit 1) 16 = cap at *
 have hmd0 : mD (dk0 rm) ≤ 0 := Nat.le_refl _
 generalize dk0 rm = D0 at *
 refine ⟨_, _, _, _, _, sa0, sb0, sc0, rfl, fun w13 e13 w14 e14 => ?_⟩
 have x14 : Ext w4 w14 := ((Ext.rfl' _).of_alloc e13).of_setRow e14 (Nat.le_refl _)
 have z14 : w14.heap.size = w4.heap.size + 1 := by rw [e14, e13]; simp
 have r14 : ∃ cs, Row w14 w4.heap.size cs 90 := ⟨_, by rw [e14]; exact Row.set (by rw [e13]; exact Row.new w4 [_, _, _, _, _, _, _, _] _) _⟩
 clear e13 e14
 have hF14 := hF0.ext (x4.tr x14)
 have z2 := x2.size
 have z4 := x4.size
 have hR14 : RT (Nf (fun i => i ≠ w4.heap.size) F0) w14 (D0, []) sa0 sb0 sc0 := h4.same fun i hp hi => ⟨x14.heap hi, hp, by omega⟩
 refine ⟨fun n i sd cp ro fl wt sa sb sc wr => ∃ (k : Nat) (F : Nat → Prop) (T : Tb), i = k ∧ k + n = z.length ∧ k ≤ 30 ∧ sd = seed ∧ cp = cap ∧ ro = T.1.room ∧ fl = T.1.fails ∧ wt = T.1.wait ∧ TF F wr t seed cap T ∧ RT (Nf (fun i => i ≠ w4.heap.size) F) wr T sa sb sc ∧ Iv (17 * k) k T ∧ Ext w0 wr ∧ (∀ i, F i → w0.heap.size ≤ i) ∧ w4.heap.size < wr.heap.size ∧ ∃ cs, Row wr w4.heap.size cs 90, ⟨z.length, 0, F0, (D0, []), rfl, by omega, by omega, rfl, rfl, rfl, rfl, rfl, hF14, hR14, ⟨by omega, (fun e he => by cases he), List.nodup_nil⟩, x2.tr (x4.tr x14), fF0, by omega, r14⟩, ?_⟩
 clear hF14 hR14 r14 x14 hF0 fF0 h4
 rintro n us i sd cp ro fl wt sa sb sc wr ⟨k, F, T, rfl, hk, hk30, rfl, rfl, rfl, rfl, rfl, hT, hR, hI, xw, fF, hsz, cs, hrow⟩
 have tail : Calls Tryz.prog n_law12_lives #[] wr fun e w' => ∃ (b : Bool), e = .returned (.bool b) ∧ w'.heap[w4.heap.size]? = wr.heap[w4.heap.size]? ∧ (Ending.returned (.bool b) = .returned (.bool true) ∧ Ext w0 w') := by
  refine (lives12_spec wr).mono ?_
  rintro e w' ⟨rfl, x'⟩
  exact ⟨_, rfl, x'.heap hsz, rfl, xw.tr x'⟩
 refine Br.mk (fun hc => Br.mk (fun hc30 => ?_) (fun _ => tail)) (fun _ => tail)
 simp only [decide_eq_true_eq] at hc hc30
 clear tail
 obtain ⟨d, hd⟩ := get_lt (l := z) (i := k) (by omega)
 have hdk := hz d (List.mem_of_getElem? hd)
 have xd := Ext.dr wr
 have zd : wr.drew.heap.size = wr.heap.size := rfl
 have wk : IntKind.wrap .i64 ((k : Int) + 1) = ((k + 1 : Nat) : Int) := by rw [wrap_in (by unfold inI; omega)]; omega
 have hN : ∀ {v : World}, w4.heap.size < v.heap.size → Fw (fun i => i ≠ w4.heap.size) v := fun h i hi => by omega
 have hdd : ∀ {v : World}, Ext w0 v → DdOk v d := fun x => ⟨hdk.i, RdK.ext hdk.t x, hdk.y, hdk.c⟩
 have hbl : ∀ {F : Nat → Prop}, (∀ i, F i → w0.heap.size ≤ i) → d.y ≠ [] → ∀ g, d.t.blk = some g → Nf (fun i => i ≠ w4.heap.size) F g := fun hf hne g hg => by
  have hlt := RdK.blk_lt hdk.t (by decide) (by simpa using hne) hg
  exact ⟨fun q => by have := hf g q; omega, by omega⟩
 have after : ∀ {F' : Nat → Prop} {T' : Tb} {sa' sb' sc' : Sl} {v v1 v2 : World} {c : Array Value}, TF F' v t sd cp T' → RT (Nf (fun i => i ≠ w4.heap.size) F') v T' sa' sb' sc' → Turned F F' wr v → Ext v v1 → v2 = v1.setRow w4.heap.size c →
   TF F' v2 t sd cp T' ∧ RT (Nf (fun i => i ≠ w4.heap.size) F') v2 T' sa' sb' sc' ∧ Ext w0 v2 ∧ (∀ i, F' i → w0.heap.size ≤ i) ∧ w4.heap.size < v2.heap.size ∧ ∃ cs, Row v2 w4.heap.size cs 90 := by
  intro F' T' sa' sb' sc' v v1 v2 c h1 h2 h3 x1 e2
  obtain ⟨x', f'⟩ := h3.fresh xw fF
  have hr := (h3.mod.row hrow (hT.no_row hrow row90)).ext x1
  have hno : ¬ F' w4.heap.size := (h1.ext x1).no_row hr row90
  have hz1 := hr.lt
  refine ⟨(h1.ext x1).same fun i hi => by rw [e2, setRow_other _ _ _ _ (fun q => hno (by rw [← q]; exact hi))], (h2.ext x1).same fun i hp _ => ⟨by rw [e2, setRow_other _ _ _ _ hp.2], hp⟩, (x'.tr x1).of_setRow e2 (by omega), f', by rw [e2]; simpa using hz1, ⟨_, by rw [e2]; exact Row.set hr _⟩⟩
 have lk : ∀ {F' : Nat → Prop} {T' : Tb} {sa' sb' sc' : Sl} {v2 : World}, Iv (17 * k + 17) (k + 1) T' → (TF F' v2 t sd cp T' ∧ RT (Nf (fun i => i ≠ w4.heap.size) F') v2 T' sa' sb' sc' ∧ Ext w0 v2 ∧ (∀ i, F' i → w0.heap.size ≤ i) ∧ w4.heap.size < v2.heap.size ∧ ∃ cs, Row v2 w4.heap.size cs 90) →
   Calls Tryz.prog n_law12_like #[.pointer (some ⟨t, 0, none⟩), tvR sd cp T'.1 sa' sb' sc', .agg #[.int .i64 d.cx, .int .i64 d.cy, .int .i64 d.cz]] v2.drew fun e w54 => e = .returned (.bool true) ∧ Ext v2.drew w54 ∧ ∃ (k2 : Nat) (F2 : Nat → Prop) (T2 : Tb), IntKind.wrap .i64 ((k : Int) + 1) = k2 ∧ k2 + (n - 1) = z.length ∧ k2 ≤ 30 ∧ sd = sd ∧ cp = cp ∧ T'.1.room = T2.1.room ∧ T'.1.fails = T2.1.fails ∧ T'.1.wait = T2.1.wait ∧ TF F2 w54 t sd cp T2 ∧ RT (Nf (fun i => i ≠ w4.heap.size) F2) w54 T2 sa' sb' sc' ∧ Iv (17 * k2) k2 T2 ∧ Ext w0 w54 ∧ (∀ i, F2 i → w0.heap.size ≤ i) ∧ w4.heap.size < w54.heap.size ∧ ∃ cs, Row w54 w4.heap.size cs 90 := by
  rintro F' T' sa' sb' sc' v2 hI' ⟨h1, h2, h3, h4, h5, cs, h6⟩
  have xd2 := Ext.dr v2
  refine (like12_spec (h1.ext xd2) (h2.ext xd2) (hN (v := v2.drew) h5) (h1.okt hI' (by omega)) hI'.nod (by have := hI'.m; omega) (d.cx, d.cy, d.cz) ⟨hdk.i.2.2.2.1, hdk.i.2.2.2.2.1, hdk.i.2.2.2.2.2.1⟩).mono ?_
  rintro e w54 ⟨rfl, x54⟩
  have xx := xd2.tr x54
  exact ⟨rfl, x54, k + 1, F', T', wk, by omega, by omega, rfl, rfl, rfl, rfl, rfl, h1.ext xx, h2.ext xx, hI'.mono (by omega) (by omega), h3.tr xx, h4, by have := xx.size; omega, cs, h6.ext xx⟩
 have cellAt : ∀ {v : World}, Ext w0 v → InB s.a (k : Int) s.n ∧ (padd s.a (((k : Nat) : Int).toNat * 9)).isSome = true ∧ LoadL v (padd (padd s.a (((k : Nat) : Int).toNat * 9)) 3) 0 [.int .i64 d.cx, .int .i64 d.cy, .int .i64 d.cz] := fun x => by
  obtain ⟨hin, hso, hld⟩ := dd_at hs x hd
  refine ⟨hin, hso, LoadL_of fun q u hq => ?_⟩
  rw [Nat.zero_add, padd_padd]
  refine hld (3 + q) u ?_
  match q, hq with
  | 0, hq => exact hq
  | 1, hq => exact hq
  | 2, hq => exact hq
 obtain ⟨hin, hso, hld⟩ := dd_at hs (xw.tr xd) hd
 have hdl : LoadL wr.drew (padd s.a (((k : Nat) : Int).toNat * 9)) 0 (dR d) := LoadL_of fun q u hq => by rw [Nat.zero_add]; exact hld q u hq
 refine ⟨hin, d.k, d.px, d.pz, d.cx, d.cy, d.cz, d.b, d.n, d.t, hdl, ?_, fun w56 e56 => ?_⟩
 ·refine (does12_spec (hT.ext xd) (hR.ext xd) (hN (v := wr.drew) hsz) hI (by omega) (by omega) hcap d (hdd (xw.tr xd)) (hbl fF)).mono ?_
  rintro e w38 ⟨F', T', sa', sb', sc', rfl, h1, h2, h3, h4⟩
  have h3' : Turned F F' wr w38 := (Turned.of_ext xd).trans h3
  refine ⟨_, _, _, _, _, sa', sb', sc', _, rfl, h3.mod.same _ hsz (hT.no_row hrow row90), fun w48 e48 w49 e49 w50 e50 => ?_⟩
  have x49 : Ext w38 w49 := ((Ext.rfl' _).of_alloc e48).of_setRow e49 (Nat.le_refl _)
  have z49 : w49.heap.size = w38.heap.size + 1 := by rw [e49, e48]; simp
  clear e48 e49
  have hA := after h1 h2 h3' x49 e50
  have z50 : w50.heap.size = w49.heap.size := by rw [e50]; simp
  have zd50 : w50.drew.heap.size = w50.heap.size := rfl
  clear e50
  obtain ⟨c1, c2, c3⟩ := cellAt (hA.2.2.1.tr (Ext.dr w50))
  refine nope rfl ⟨c1, nnP c2 ⟨_, _, _, c3, (lk h4 hA).mono ?_⟩⟩
  rintro e w54 ⟨rfl, x54, hI54⟩
  exact ⟨_, rfl, x54.heap (by have := hA.2.2.2.2.1; omega), x54.heap (by omega), nope rfl ⟨n - 1, by omega, hI54⟩⟩
 ·have z56 : w56.heap.size = wr.heap.size + 1 := by rw [e56]; simp
  have x56 : Ext wr w56 := xd.of_alloc e56
  have r56 : Row w56 wr.drew.heap.size [.int .i64 0, .int .i64 0, .int .i64 0, .int .i64 0, .int .i64 0, .slice none 0 0, .slice none 0 0, .slice none 0 0] 90 := by rw [e56]; exact Row.new _ [_, _, _, _, _, _, _, _] _
  clear e56
  have hR56 : RT (Nf (fun i => i ≠ w4.heap.size ∧ i ≠ wr.drew.heap.size) F) w56 T sa sb sc := hR.same fun i hp hi => ⟨x56.heap hi, hp.1, hp.2, by omega⟩
  refine (does12_spec (hT.ext x56) hR56 (fun i hi => ⟨by omega, by omega⟩) hI (by omega) (by omega) hcap d (hdd (xw.tr x56)) (fun hne g hg => ⟨(hbl fF hne g hg).1, (hbl fF hne g hg).2, by
   have hlt := RdK.blk_lt hdk.t (by decide) (by simpa using hne) hg
   have := xw.size
   omega⟩)).mono ?_
  rintro e w57 ⟨F', T', sa', sb', sc', rfl, h1, h2, h3, h4⟩
  have h3' : Turned F F' wr w57 := (Turned.of_ext x56).trans h3
  have hnf : ¬ F wr.drew.heap.size := (hT.ext x56).no_row r56 row90
  have r57 := h3.mod.row r56 hnf
  have hnf' : ¬ F' wr.drew.heap.size := h1.no_row r57 row90
  have z57 := h3.mod.size
  refine ⟨_, _, _, _, _, sa', sb', sc', _, rfl, h3.mod.same _ (by omega) ((hT.ext x56).no_row (hrow.ext x56) row90), h3.mod.same _ (by omega) hnf, fun w67 e67 w68 e68 => ?_⟩
  have z67 : w67.heap.size = w57.heap.size := by rw [e67]; simp
  have h67 : TF F' w67 t sd cp T' := h1.same fun i hi => by rw [e67, setRow_other _ _ _ _ (fun q => hnf' (by rw [← q]; exact hi))]
  have hR67 : RT (Nf (fun i => i ≠ w4.heap.size) F') w67 T' sa' sb' sc' := h2.same fun i hp _ => ⟨by rw [e67, setRow_other _ _ _ _ hp.2.2], hp.1, hp.2.1⟩
  have h367 : Turned F F' wr w67 := ⟨⟨by rw [e67]; exact h3'.mod.os, by rw [e67]; exact h3'.mod.tape, by rw [e67]; exact h3'.mod.output, by rw [z67]; exact h3'.mod.size, fun i hi hn => by rw [e67, setRow_other _ _ _ _ (by omega)]; exact h3'.mod.same i hi hn⟩, h3'.sub⟩
  clear e67
  have hA := after h67 hR67 h367 (Ext.rfl' _) e68
  have z68 : w68.heap.size = w67.heap.size := by rw [e68]; simp
  have zd68 : w68.drew.heap.size = w68.heap.size := rfl
  clear e68
  obtain ⟨c1, c2, c3⟩ := cellAt (hA.2.2.1.tr (Ext.dr w68))
  refine nope rfl ⟨c1, nnP c2 ⟨_, _, _, c3, (lk h4 hA).mono ?_⟩⟩
  rintro e w54 ⟨rfl, x54, hI54⟩
  exact ⟨_, rfl, x54.heap (by have := hA.2.2.2.2.1; omega), x54.heap (by omega), nope rfl ⟨n - 1, by omega, hI54⟩⟩
end Go.Proofs.YtbnmglonbhdcbaaGreatDoor
namespace Go.Proofs.YtbnmglonbhdcbaaGreatDoor
open Go Go.Vc Go.RowKit Go.Proofs Go.Chk
def toD (r : List Int × Sl × List Int) : Dd := ⟨r.1.getD 0 0, r.1.getD 1 0, r.1.getD 2 0, r.1.getD 3 0, r.1.getD 4 0, r.1.getD 5 0, r.1.getD 6 0, r.1.getD 7 0, r.2.1, r.2.2⟩
theorem toD_ok {w : World} {s : Sl} {z : List (List Int × Sl × List Int)} (hs : RdK w s 9 (z.map fun r => (r.1.map fun n => .int .i64 n) ++ [.slice r.2.1.a r.2.1.n r.2.1.c])) (hz : ∀ r ∈ z, r.1.length = 8 ∧ (∀ n ∈ r.1, inI n) ∧ RdK w r.2.1 1 (r.2.2.map fun n => [.int .u8 n]) ∧ (∀ n ∈ r.2.2, 0 ≤ n ∧ n < 256) ∧ r.2.1.n ≤ r.2.1.c) :
  RdK w s 9 ((z.map toD).map dR) ∧ ∀ d ∈ z.map toD, DdOk w d := by
 have e : ∀ r ∈ z, (r.1.map fun n => Value.int .i64 n) ++ [.slice r.2.1.a r.2.1.n r.2.1.c] = dR (toD r) ∧ DdOk w (toD r) := fun r hr => by
  obtain ⟨h1, h2, h3, h4, h5⟩ := hz r hr
  obtain ⟨r1, r2⟩ := r
  match r1, h1, h2 with
  | [a0, a1, a2, a3, a4, a5, a6, a7], _, h2 =>
    exact ⟨rfl, ⟨h2 a0 (by simp), h2 a1 (by simp), h2 a2 (by simp), h2 a3 (by simp), h2 a4 (by simp), h2 a5 (by simp), h2 a6 (by simp), h2 a7 (by simp)⟩, h3, h4, h5⟩
 constructor
 ·rw [List.map_map]
  have : (z.map fun r => (r.1.map fun n => Value.int .i64 n) ++ [.slice r.2.1.a r.2.1.n r.2.1.c]) = z.map (dR ∘ toD) := List.map_congr_left fun r hr => (e r hr).1
  rw [← this]; exact hs
 ·intro d hd
  obtain ⟨r, hr, rfl⟩ := List.mem_map.1 hd
  exact (e r hr).2
end Go.Proofs.YtbnmglonbhdcbaaGreatDoor
