import Derived.Test.YtbnmglonbhdcbaaGreatDoorRF
import Derived.Test.YtbnmglonbhdcbaaGreatDoorKU
import Derived.Test.YtbnmglonbhdcbaaGreatDoorGL
set_option linter.all false
namespace Go.Proofs.YtbnmglonbhdcbaaGreatDoor
open Go Go.Vc Go.RowKit Go.Proofs Go.Chk Go.Runs Go.Code
def pinsIn (n : Nat) (l : List En) : Prop := ∀ e ∈ l, 0 ≤ e.2.2.2 ∧ e.2.2.2 ≤ n
structure Iv (m n : Nat) (T : Tb) : Prop where
 m : mD T.1 ≤ m
 p : pinsIn n T.2
 nod : nodL T.2
theorem Iv.mono {m n m' n' : Nat} {T : Tb} (h : Iv m n T) (hm : m ≤ m') (hn : n ≤ n') : Iv m' n' T := ⟨Nat.le_trans h.m hm, (fun e he => by have := h.p e he; omega), h.nod⟩
theorem iv_erase {m n : Nat} {D : Dk} {l : List En} (h : Iv m n (D, l)) (i : Nat) : Iv m n (D, l.eraseIdx i) := ⟨h.m, (fun e he => h.p e ((List.eraseIdx_sublist ..).subset he)), nod_erase h.nod i⟩
theorem iv_save {m n : Nat} {D : Dk} {l : List En} (h : Iv m n (D, l)) {i : Nat} {e : En} (hi : l[i]? = some e) : Iv (m + 1) n ((saveE D e).1, l.set i (saveE D e).2.1) := by
 have h1 := mD_saveE D e
 have h2 := h.m
 refine ⟨by simp only at h2 ⊢; omega, fun x hx => ?_, nod_set h.nod hi (saveE_en D e).1⟩
 rcases List.mem_or_eq_of_mem_set hx with hx | rfl
 ·exact h.p x hx
 ·rw [(saveE_en D e).2.2]; exact h.p e (List.mem_of_getElem? hi)
theorem iv_go {m n : Nat} {D : Dk} {l : List En} (h : Iv m n (D, l)) (i : Nat) : Iv (m + 1) n (goE D l i).1 := by
 cases hi : l[i]? with
 | none => unfold goE; rw [hi]; exact h.mono (by omega) (Nat.le_refl _)
 | some e =>
   rw [goE_at hi]
   have := iv_save h hi
   split
   ·have := iv_erase this i
    simp only [List.eraseIdx_set_eq] at this
    exact this
   ·exact this
theorem iv_room {m n : Nat} {D : Dk} {l : List En} (h : Iv m n (D, l)) (limit : Int) : Iv (m + 1) n (roomE limit D l).1 := by
 unfold roomE
 split
 ·exact h.mono (by omega) (Nat.le_refl _)
 ·split
  ·exact h.mono (by omega) (Nat.le_refl _)
  ·exact iv_go h _
theorem go_sub {D : Dk} {l : List En} {i : Nat} {x : En} (hx : x ∈ (goE D l i).1.2) : here1 l x.1 := by
 cases hi : l[i]? with
 | none => unfold goE at hx; rw [hi] at hx; exact ⟨x, hx, rfl⟩
 | some e =>
   rw [goE_at hi] at hx
   split at hx
   ·exact ⟨x, (List.eraseIdx_sublist ..).subset hx, rfl⟩
   ·rcases List.mem_or_eq_of_mem_set hx with hx | rfl
    ·exact ⟨x, hx, rfl⟩
    ·exact ⟨e, List.mem_of_getElem? hi, (saveE_en D e).1.symm⟩
theorem room_sub {limit : Int} {D : Dk} {l : List En} {x : En} (hx : x ∈ (roomE limit D l).1.2) : here1 l x.1 := by
 unfold roomE at hx
 split at hx
 ·exact ⟨x, hx, rfl⟩
 ·split at hx
  ·exact ⟨x, hx, rfl⟩
  ·exact go_sub hx
theorem nod_last {l : List En} (hn : nodL l) {k : Nat} {e e' : En} (hk : l[k]? = some e) (h1 : e'.1 = e.1) : nodL (l.eraseIdx k ++ [e']) := nod_push (nod_erase hn k) fun ⟨x, hx, q⟩ => ((mem_erase hn hk x).1 hx).2 (q.trans h1)
theorem iv_ld {m n : Nat} {D : Dk} {l : List En} (h : Iv m n (D, l)) (seed limit : Int) (p : Po) : Iv (m + 1) n (ldE seed limit D l p).1 := by
 have hr := iv_room h limit
 have hsub := @room_sub limit D l
 unfold ldE
 rcases firstI_cases (fun e : En => e.1 == p) l with ⟨hf, hno⟩ | ⟨k, e, hk, he, hf, -⟩
 ·rw [hf]
  split
  ·exact h.mono (by omega) (Nat.le_refl _)
  ·rw [if_neg (by decide)]
   split
   ·exact hr
   ·refine ⟨hr.m, fun e he => ?_, nod_push hr.nod fun ⟨x, hx, q⟩ => ?_⟩
    ·rcases List.mem_append.1 he with he | he
     ·exact hr.p e he
     ·simp only [List.mem_singleton] at he
      subst he
      exact ⟨Int.le_refl 0, by simp only; omega⟩
    ·obtain ⟨y, hy, q2⟩ := hsub hx
     have := hno y hy
     have q3 : y.1 = p := q2.trans q
     simp [q3] at this
 ·rw [hf]
  split
  ·exact h.mono (by omega) (Nat.le_refl _)
  ·rw [if_pos (by omega), Int.toNat_natCast, hk]
   refine ⟨by have := h.m; simp only at this ⊢; omega, fun x hx => ?_, nod_last h.nod hk rfl⟩
   rcases List.mem_append.1 hx with hx | hx
   ·exact h.p x ((List.eraseIdx_sublist ..).subset hx)
   ·have : x = e := by simpa using hx
    subst this; exact h.p x (List.mem_of_getElem? hk)
theorem iv_unld {m n : Nat} {D : Dk} {l : List En} (h : Iv m n (D, l)) (p : Po) : Iv (m + 1) n (unldE D l p).1 := by
 unfold unldE
 split
 ·split
  ·exact h.mono (by omega) (Nat.le_refl _)
  ·exact iv_go h _
 ·exact h.mono (by omega) (Nat.le_refl _)
theorem iv_set {m n : Nat} {D : Dk} {l : List En} (h : Iv m n (D, l)) (c : Ce) (b : Int) : Iv m n (D, (setE l c b).1) := by
 have key : ∀ {l' : List En}, (∀ x ∈ l', 0 ≤ x.2.2.2 ∧ x.2.2.2 ≤ n) → nodL l' → Iv m n (D, l') := fun h1 h2 => ⟨h.m, h1, h2⟩
 unfold setE
 rcases firstI_cases (fun e : En => e.1 == pos c) l with ⟨hf, hno⟩ | ⟨k, e, hk, he, hf, -⟩
 ·rw [hf, if_pos (by decide)]; exact h
 ·rw [hf, if_neg (by omega)]
  split
  ·exact h
  ·split
   ·exact h
   ·rw [Int.toNat_natCast, hk]
    refine key (fun x hx => ?_) (nod_last h.nod hk rfl)
    rcases List.mem_append.1 hx with hx | hx
    ·exact h.p x ((List.eraseIdx_sublist ..).subset hx)
    ·have : x = (e.1, (kSet e.1 e.2.1 c b).1, e.2.2.1 || (kAt e.1 e.2.1 c != b), e.2.2.2) := by simpa using hx
     subst this; exact h.p e (List.mem_of_getElem? hk)
abbrev Nf (N F : Nat → Prop) : Nat → Prop := fun i => ¬ F i ∧ N i
section
variable {N F F' : Nat → Prop} {w w' v v' : World} {s1 s2 s3 : Sl} {T T' : Tb} {seed cap : Int} {t a b : Nat}
theorem rt_turn (hR : RT (Bx (Nf N F) a b) w T' s1 s2 s3) (ht : Turned F F' w w') : RT (Bx (Nf N F') a b) w' T' s1 s2 s3 :=
 hR.same fun i hp hi => ⟨ht.mod.same i hi hp.1.1, ⟨fun q => (ht.sub i q).elim hp.1.1 (by omega), hp.1.2⟩, hp.2⟩
theorem TF.okt (h : TF F w t seed cap T) {m n : Nat} (hi : Iv m n T) (hm : m ≤ 400000) : Okt T := by
 have h1 := h.len
 exact ⟨h.ok, mD_few (by have := hi.m; omega), h.good, by omega⟩
end
end Go.Proofs.YtbnmglonbhdcbaaGreatDoor
namespace Go.Proofs.YtbnmglonbhdcbaaGreatDoor
open Go Go.Vc Go.RowKit Go.Proofs Go.Chk Go.Runs Go.Code
section
variable {N F F' : Nat → Prop} {w w' v v' : World} {s1 s2 s3 : Sl} {T T' : Tb} {seed cap : Int} {t a b : Nat}
end
end Go.Proofs.YtbnmglonbhdcbaaGreatDoor
namespace Go.Proofs.YtbnmglonbhdcbaaGreatDoor
open Go Go.Vc Go.RowKit Go.Proofs Go.Chk Go.Runs Go.Code
end Go.Proofs.YtbnmglonbhdcbaaGreatDoor
namespace Go.Proofs.YtbnmglonbhdcbaaGreatDoor
open Go Go.Vc Go.RowKit Go.Proofs Go.Chk Go.Runs Go.Code
section
variable {N F F' : Nat → Prop} {w w' v v' : World} {s1 s2 s3 : Sl} {T T' : Tb} {seed cap : Int} {t a b : Nat}
theorem tfHere_spec (h : TF F w t seed cap T) : Calls Tryz.prog n_table_Table_Here #[.pointer (some ⟨t, 0, none⟩)] w fun e w' => ∃ s' : Sl, e = .returned (.slice s'.a s'.n s'.c) ∧ OwnK w.heap.size tPo 2 w' s' (T.2.map fun e => [.int .i64 e.1.1, .int .i64 e.1.2]) ∧ Ext w w' := by
 obtain ⟨st, d, r, sl, its, g1, e, rfl⟩ := h
 rw [← e]
 exact Here_spec g1
end
end Go.Proofs.YtbnmglonbhdcbaaGreatDoor
