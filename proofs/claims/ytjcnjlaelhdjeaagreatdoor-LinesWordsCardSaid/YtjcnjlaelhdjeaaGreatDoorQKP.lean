import Derived.Test.YtjcnjlaelhdjeaaGreatDoorK
import Derived.Shelf.Vars
set_option linter.all false
namespace Go.Proofs.YtjcnjlaelhdjeaaGreatDoor
open Go Go.Vc Go.RowKit Go.Proofs Go.Lin Go.Chk Go.Runs Go.Code
set_option linter.unusedVariables false
theorem word_size {s t : ByteArray} (h : t ∈ wordsK s) : t.size ≤ s.size := by
 have ex : ∀ i j, (s.extract i j).size ≤ s.size := fun i j => by rw [ByteArray.size_extract]; omega
 rw [words_eq] at h
 rcases List.mem_append.1 h with h | h
 ·obtain ⟨x, -, rfl⟩ := List.mem_map.1 h
  exact ex _ _
 ·split at h
  ·rw [List.mem_singleton.1 h]
   exact ex _ _
  ·cases h
theorem bst_len (s : ByteArray) : ∀ i : Nat, (bst s i).2.length ≤ i
 | 0 => Nat.le_refl _
 | i + 1 => by
   have ih := bst_len s i
   show (bstep s i (bst s i)).2.length ≤ i + 1
   unfold bstep
   split
   ·split
    ·simp; omega
    ·show (bst s i).2.length ≤ i + 1
     omega
   ·show (bst s i).2.length ≤ i + 1
    omega
theorem words_len (s : ByteArray) : (wordsK s).length ≤ s.size + 1 := by
 have h := bst_len s s.size
 rw [words_eq, List.length_append]
 unfold outK
 rw [List.length_map]
 split <;> simp <;> omega
theorem LinesWords_law {w : World} {m : Int} (hm : w.cell? ⟨0, 0, none⟩ = some (.int .i64 m)) (a0 : ByteArray) (a1 : Int) (hin : inI a1) :
  Calls Tryz.prog n_law22_LinesWords #[.string a0, .int .i64 a1] w fun e w' => e = .returned (.bool true) ∧ Ext w w' := by
 apply law22_LinesWords.vc
 unfold law22_LinesWords.pre
 refine (Few_spec a0 100 w).mono ?_
 rintro _ w0 ⟨rfl, e0⟩
 have hsz := few_size a0 100
 generalize fewK a0 100 = line at *
 rw [e0]
 refine ⟨line, rfl, (Words_spec line w (by omega)).mono ?_⟩
 rintro _ w2 ⟨s3, rfl, hr3, -, -, x2⟩
 refine ⟨s3, rfl, (rWords_spec line w2 (by omega)).mono ?_⟩
 rintro _ w4 ⟨s5, rfl, ho5, x4⟩
 refine ⟨s5, rfl, ?_⟩
 have hr4 : RdK w4 s3 1 ((wordsK line).map sv) := hr3.ext x4
 have hr5 : RdK w4 s5 1 ((wordsK line).map sv) := ho5.rd (by decide)
 have n3 : s3.n = (wordsK line).length := by rw [hr3.n, List.length_map]
 have n5 : s5.n = (wordsK line).length := by rw [hr5.n, List.length_map]
 refine nope (by rw [n3, n5]; simp) ?_
 refine ⟨fun n x u => ∃ p : Nat, x = (p : Int) ∧ p + n = s3.n ∧ Ext w4 u, ⟨s3.n, 0, rfl, by omega, Ext.rfl' _⟩, ?_⟩
 rintro n us x u ⟨p, rfl, hp, xu⟩
 refine Br.mk (fun c => ?_) (fun c => ?_)
 ·have c := of_decide_eq_true c
  have hpl : p < (wordsK line).length := by omega
  obtain ⟨t, ht⟩ : ∃ t, (wordsK line)[p]? = some t := ⟨_, List.getElem?_eq_getElem hpl⟩
  have hts := word_size (List.mem_of_getElem? ht)
  have xd : Ext w4 u.drew := xu.tr (Ext.dr u)
  have get : ∀ {v : World} {s : Sl}, RdK v s 1 ((wordsK line).map sv) → ∀ {v' : World}, Ext v v' → InB s.a (p : Int) s.n ∧ ld v' (padd s.a ((p : Int).toNat * 1)) = some (.string t) := fun {v s} h {v'} xv => by
   have hn : s.n = (wordsK line).length := by rw [h.n, List.length_map]
   refine ⟨h.inB (by decide) (by omega) (by omega), ?_⟩
   have := (h.ext xv).rd p [.string t] (by rw [List.getElem?_map, ht]; rfl) 0 _ rfl
   simpa using this
  refine ⟨(get hr4 xd).1, t, (get hr4 xd).2, (get hr5 xd).1, t, (get hr5 xd).2, nope (by rw [(strEq_iff t t).2 rfl]; rfl) ⟨(get hr4 xd).1, t, (get hr4 xd).2, (Number_spec t u.drew).mono ?_⟩⟩
  rintro _ w15 ⟨rfl, x15⟩
  have xe : Ext w4 w15 := xd.tr x15
  refine ⟨_, _, rfl, (get hr4 xe).1, t, (get hr4 xe).2, (rNumber_spec t w15 (by omega)).mono ?_⟩
  rintro _ w19 ⟨rfl, e19⟩
  rw [e19]
  refine ⟨_, _, rfl, nope (by simp) (nope (by simp) ⟨n - 1, by omega, p + 1, ?_, by omega, xe⟩)⟩
  have hw := words_len line
  rw [wrap_in (by unfold inI; omega)]
  omega
 ·have hb : (Int.tmod a1 1000000000000000).natAbs < 10 ^ 15 := by
   rw [Int.natAbs_tmod]
   exact Nat.mod_lt _ (by decide)
  have hi : inI (Int.tmod a1 1000000000000000) := by unfold inI; omega
  refine (Decimal_spec 14 _ u (by decide) hb hi).mono ?_
  rintro _ w22 ⟨rfl, x22⟩
  refine ⟨_, rfl, (Number_spec _ w22).mono ?_⟩
  rintro _ w24 ⟨rfl, x24⟩
  have hnum : numK ⟨(decL 15 (Int.tmod a1 1000000000000000)).toArray⟩ = (Int.tmod a1 1000000000000000, true) := num_dec hb
  rw [hnum]
  refine ⟨_, _, rfl, yes (by simp) (yes rfl ?_)⟩
  have xa : Ext w w24 := (x2.tr x4).tr ((xu.tr x22).tr x24)
  have hc : w24.cell? ⟨0, 0, none⟩ = some (.int .i64 m) := by
   have : Vc.ld w (some ⟨0, 0, none⟩) = some (.int .i64 m) := hm
   exact xa.ld this
  refine (lives22_spec hc).mono ?_
  rintro _ w27 ⟨rfl, x27⟩
  exact ⟨_, rfl, rfl, xa.tr x27⟩
theorem maxLen_is {w : World} (h : w.ShapedOpen Tryz.prog) : ∃ m, w.cell? ⟨0, 0, none⟩ = some (.int .i64 m) :=
 cell_of_shapedOpen_int (t := 3) (zero := #[.int .i64 0]) h (by decide +kernel) (by kernel_rfl) rfl (by kernel_rfl) (by kernel_rfl) Tryz.underlying3
theorem walk_LinesWords (a0 : ByteArray) (a1 : Int) (w : World) (_ : a0.size ≤ maxLen) (h1 : inI a1) (hs : w.ShapedOpen Tryz.prog) :
  Calls Tryz.prog 6 #[.string a0, .int .i64 a1] w fun e w' => e = .returned (.bool true) ∧ Ext w w' := by
 obtain ⟨m, hm⟩ := maxLen_is hs
 exact LinesWords_law hm a0 a1 h1
end Go.Proofs.YtjcnjlaelhdjeaaGreatDoor
