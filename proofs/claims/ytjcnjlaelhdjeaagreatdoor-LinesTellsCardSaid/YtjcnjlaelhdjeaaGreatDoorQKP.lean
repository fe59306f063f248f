import Derived.Test.YtjcnjlaelhdjeaaGreatDoorM
set_option linter.all false
namespace Go.Proofs.YtjcnjlaelhdjeaaGreatDoor
open Go Go.Vc Go.RowKit Go.Proofs Go.Lin Go.Chk Go.Runs Go.Code Go.Que Go.Flw Go.Eng
set_option linter.unusedVariables false
theorem wordsA {G dx dy dz : ByteArray} {k : Nat} (hk : 0 < k) (hG : bl G = List.replicate k 32) (hx : Wd dx) (hy : Wd dy) (hz : Wd dz) :
  wordsK ((G ++ ByteArray.mk #[97, 116]) ++ (((((G ++ dx) ++ G) ++ dy) ++ G) ++ dz)) = [ByteArray.mk #[97, 116], dx, dy, dz] := by
 refine words_of ?_
 simp only [bl_app, hG, List.append_assoc]
 have h0 : Wd (ByteArray.mk #[97, 116]) := ⟨by decide, by decide⟩
 have e := words_c hk h0 hx hy hz []
 rw [List.append_nil, words_last hz.1 hz.2] at e
 rw [words_blanks, e]
 rfl
theorem wordsC {G dx dy dz : ByteArray} {k : Nat} (hk : 0 < k) (hG : bl G = List.replicate k 32) (hx : Wd dx) (hy : Wd dy) (hz : Wd dz) :
  wordsK (ByteArray.mk #[97, 116] ++ (((((G ++ dx) ++ G) ++ dy) ++ G) ++ dz)) = [ByteArray.mk #[97, 116], dx, dy, dz] := by
 refine words_of ?_
 simp only [bl_app, hG, List.append_assoc]
 have h0 : Wd (ByteArray.mk #[97, 116]) := ⟨by decide, by decide⟩
 have e := words_c hk h0 hx hy hz []
 rw [List.append_nil, words_last hz.1 hz.2] at e
 rw [e]
 rfl
theorem wordsB {G dx dy dz t : ByteArray} {k : Nat} (hk : 0 < k) (hG : bl G = List.replicate k 32) (hx : Wd dx) (hy : Wd dy) (hz : Wd dz) (ht : Wd t) :
  wordsK ((((ByteArray.mk #[101, 100, 105, 116] ++ (((((G ++ dx) ++ G) ++ dy) ++ G) ++ dz)) ++ G) ++ t) ++ G) = [ByteArray.mk #[101, 100, 105, 116], dx, dy, dz, t] := by
 refine words_of ?_
 simp only [bl_app, hG, List.append_assoc]
 have h0 : Wd (ByteArray.mk #[101, 100, 105, 116]) := ⟨by decide, by decide⟩
 have e := words_c hk h0 hx hy hz (List.replicate k 32 ++ (bl t ++ List.replicate k 32))
 rw [words_wg _ hk hz.1 hz.2, words_end hk ht.1 ht.2] at e
 rw [e]
 rfl
theorem str_yes {x y : ByteArray} (h : x = y) : (!strEq x y) = false := by rw [(strEq_iff x y).2 h]; rfl
theorem sok0 : Sok (M0e 1 9 200000 16) 800000 := ⟨⟨by decide, by decide⟩, by decide, ⟨by decide, by decide⟩, by decide⟩
theorem Dec2_spec (x : Int) (h : 0 ≤ x ∧ x < 32) (w : World) : Calls Tryz.prog 13 #[.int .i64 x] w fun e w' => e = .returned (.string (decT x)) ∧ Ext w w' := Decimal_spec 1 x w (by decide) (by omega) (by unfold inI; omega)
set_option maxRecDepth 20000 in
theorem LinesTells_law {w : World} {m : Int} (hm : w.cell? ⟨0, 0, none⟩ = some (.int .i64 m)) (a0 a1 a2 a3 a4 : Int) (h0 : inI a0) (h1 : inI a1) (h2 : inI a2) (h3 : inI a3) (h4 : inI a4) :
  Calls Tryz.prog n_law22_LinesTells #[.int .i64 a0, .int .i64 a1, .int .i64 a2, .int .i64 a3, .int .i64 a4] w fun e w' => e = .returned (.bool true) ∧ Ext w w' := by
 apply law22_LinesTells.vc
 unfold law22_LinesTells.pre
 have A0 := abs_in h0
 have A1 := abs_in h1
 have A2 := abs_in h2
 have A4 := abs_in h4
 refine (Now_new w).mono ?_
 rintro _ w0 ⟨sh, rfl, N0⟩
 refine ⟨_, rfl, nope rfl ((abs_spec a4 h4 w0).mono ?_)⟩
 rintro _ w2 ⟨rfl, e2⟩
 rw [e2]
 have T4 := tmod_in A4.1 (k := 6) (by decide)
 have hwr : IntKind.wrap .i64 (1 + Int.tmod (absK a4) 6) = 1 + Int.tmod (absK a4) 6 := wrap_in (by unfold inI; omega)
 refine ⟨_, rfl, ?_⟩
 rw [hwr]
 obtain ⟨k, hk⟩ : ∃ k : Nat, (1 + Int.tmod (absK a4) 6).toNat = k := ⟨_, rfl⟩
 have hk1 : 0 < k ∧ k ≤ 6 := by omega
 have hG : bl ((ByteArray.mk #[32, 32, 32, 32, 32, 32]).extract 0 (1 + Int.tmod (absK a4) 6).toNat) = List.replicate k 32 := by
  rw [hk, bl_ext]
  have : k = 1 ∨ k = 2 ∨ k = 3 ∨ k = 4 ∨ k = 5 ∨ k = 6 := by omega
  rcases this with rfl | rfl | rfl | rfl | rfl | rfl <;> rfl
 generalize (ByteArray.mk #[32, 32, 32, 32, 32, 32]).extract 0 (1 + Int.tmod (absK a4) 6).toNat = G at *
 have sG : G.size ≤ 6 := by rw [← bl_len, hG, List.length_replicate]; omega
 refine ⟨by omega, by show _ ≤ (6 : Int); omega, (abs_spec a0 h0 w0).mono ?_⟩
 rintro _ w4 ⟨rfl, e4⟩
 rw [e4]
 have T0 := tmod_in A0.1 (k := 16) (by decide)
 refine ⟨_, rfl, ?_⟩
 generalize Int.tmod (absK a0) 16 = x at *
 refine (Dec2_spec x (by omega) w0).mono ?_
 rintro _ w6 ⟨rfl, x6⟩
 obtain ⟨nx, -, sx⟩ := dec_num (n := x) (by omega)
 have wx := dec_wd (n := x) (by omega)
 refine ⟨_, rfl, le_max (by omega), le_max (by simp only [ByteArray.size_append]; omega), (abs_spec a1 h1 w6).mono ?_⟩
 rintro _ w8 ⟨rfl, e8⟩
 rw [e8]
 have T1 := tmod_in A1.1 (k := 17) (by decide)
 refine ⟨_, rfl, ?_⟩
 rw [wrap_in (n := 15 + Int.tmod (absK a1) 17) (by unfold inI; omega)]
 obtain ⟨y, hy⟩ : ∃ y, 15 + Int.tmod (absK a1) 17 = y := ⟨_, rfl⟩
 rw [hy]
 refine (Dec2_spec y (by omega) w6).mono ?_
 rintro _ w10 ⟨rfl, x10⟩
 obtain ⟨ny, -, sy⟩ := dec_num (n := y) (by omega)
 have wy := dec_wd (n := y) (by omega)
 refine ⟨_, rfl, le_max (by simp only [ByteArray.size_append]; omega), le_max (by simp only [ByteArray.size_append]; omega), (abs_spec a2 h2 w10).mono ?_⟩
 rintro _ w12 ⟨rfl, e12⟩
 rw [e12]
 have T2 := tmod_in A2.1 (k := 16) (by decide)
 refine ⟨_, rfl, ?_⟩
 generalize Int.tmod (absK a2) 16 = z at *
 refine (Dec2_spec z (by omega) w10).mono ?_
 rintro _ w14 ⟨rfl, x14⟩
 obtain ⟨nz, -, sz⟩ := dec_num (n := z) (by omega)
 have wz := dec_wd (n := z) (by omega)
 refine ⟨_, rfl, le_max (by simp only [ByteArray.size_append]; omega), (ref04_Good_spec a3 w14 h3).mono ?_⟩
 rintro _ w16 ⟨rfl, e16⟩
 rw [e16]
 obtain ⟨gb0, gb1, gbm⟩ := bGood_bd a3
 generalize bGood a3 = b at *
 refine ⟨_, rfl, (ref04_Name_spec b w14 (by unfold inI; omega)).mono ?_⟩
 rintro _ w18 ⟨rfl, x18⟩
 obtain ⟨⟨nb, -, -⟩, sb⟩ := name_all ⟨gb0, gb1⟩ gbm
 have wb := name_wd ⟨gb0, gb1⟩ gbm
 obtain ⟨C, hC1, hC2, hld, hat⟩ := base1
 have hcap : (M0e 1 9 200000 16).cap = 9 := by decide
 have hldM : ldE (M0e 1 9 200000 16).seed (M0e 1 9 200000 16).cap (M0e 1 9 200000 16).T.1 (M0e 1 9 200000 16).T.2 (0, 0) = ((dk0 200000, [((0, 0), C, false, 0)]), 0) := by rw [hcap]; exact hld
 have N18 : Now w sh (M0e 1 9 200000 16) occ0 noL w18 := N0.ext ((x6.tr x10).tr (x14.tr x18))
 refine ⟨_, rfl, (Now_load N18 (by decide) line1 (by decide) words1 pos0 (by rw [hldM])).mono ?_⟩
 rintro _ w20 ⟨rfl, N20⟩
 rw [hldM] at N20
 refine ⟨_, rfl, nope (str_yes rfl) ?_⟩
 have sA : (ByteArray.mk #[97, 116]).size = 2 := rfl
 have sE : (ByteArray.mk #[101, 100, 105, 116]).size = 4 := rfl
 have hc : inY (x, y, z) := ⟨by show 0 ≤ y; omega, by show y < 32; omega⟩
 have hpc : pos (x, y, z) = (0, 0) := by unfold pos; simp only; rw [show x / 16 = 0 by omega, show z / 16 = 0 by omega]
 have hok : okC (x, y, z) := ⟨by unfold inI; show _ ∧ _; simp only; omega, by unfold inI; simp only; omega, by unfold inI; simp only; omega⟩
 have hwide : wideC (x, y, z) := by unfold wideC; simp only; omega
 have hair : atE [(((0, 0), C, false, 0) : En)] (x, y, z) = 0 := by
  rw [hat _ hc hpc]
  have := ground_top 1 x z
  have := ground_in 1 x z
  unfold ofG
  simp only
  rw [if_neg (by omega), if_neg (by omega), if_neg (by omega), if_neg (by omega), if_neg (by omega)]
 refine ⟨le_max (by omega), le_max (by simp only [ByteArray.size_append]; omega), (Now_at N20 _ (by simp only [ByteArray.size_append]; omega) (wordsA hk1.1 hG wx wy wz) (pVec_of nx ny nz) hok).mono ?_⟩
 rintro _ w22 ⟨rfl, N22⟩
 refine ⟨_, rfl, nope (str_yes (by show cellT (atE [(((0, 0), C, false, 0) : En)] (x, y, z)) = _; rw [hair]; decide +kernel)) ?_⟩
 obtain ⟨C', d, hset⟩ := set1 (C := C) hpc hc gbm
 have hg1 : goodL [(((0, 0), C, false, 0) : En)] := fun e he => by rw [List.mem_singleton.1 he]; exact ⟨hC1, hC2⟩
 have hn1 : nodL [(((0, 0), C, false, 0) : En)] := by unfold nodL; simp
 have hsh := set_here hn1 hg1 (c := (x, y, z)) ⟨_, List.mem_singleton.2 rfl, hpc.symm⟩ hc gbm
 have hee : ∀ M : Sm, eeditE M noL (x, y, z) b = ((setE M.T.2 (x, y, z) b).2, editM M (x, y, z) b) := fun M => by unfold eeditE; rw [if_neg (fun q => by rw [held_none] at q; exact absurd q.2 (by decide))]
 have hpe : pEdit [decT x, decT y, decT z, bName b] = some ((x, y, z), b) := by
  unfold pEdit
  rw [pVec_of nx ny nz]
  simp only
  rw [pBlk_of nb]
 refine ⟨le_max (by simp only [ByteArray.size_append]; omega), le_max (by simp only [ByteArray.size_append]; omega), le_max (by simp only [ByteArray.size_append]; omega), le_max (by simp only [ByteArray.size_append]; omega),
  (Now_edit N22 (okL_none 0) ⟨sok0.l, sok0.c, sok0.now, sok0.d⟩ _ (by simp only [ByteArray.size_append]; omega) (wordsB hk1.1 hG wx wy wz wb) hpe hwide (by rw [hee]; simp only; rw [hset]; show (0 : Int) ≤ 0 ∧ (0 : Int) < 14; decide)).mono ?_⟩
 rintro _ w24 ⟨rfl, N24⟩
 rw [hee] at N24
 refine ⟨_, rfl, nope (str_yes (by rw [hee]; simp only; rw [hset]; rfl)) ?_⟩
 refine ⟨le_max (by simp only [ByteArray.size_append]; omega), (Now_at N24 _ (by simp only [ByteArray.size_append]; omega) (wordsC hk1.1 hG wx wy wz) (pVec_of nx ny nz) hok).mono ?_⟩
 rintro _ w26 ⟨rfl, N26⟩
 have hT : cellT (atE (editM { M0e 1 9 200000 16 with T := (dk0 200000, [((0, 0), C, false, 0)]) } (x, y, z) b).T.2 (x, y, z)) = bName b := by
  show cellT (atE (setE [(((0, 0), C, false, 0) : En)] (x, y, z) b).1 (x, y, z)) = _
  rw [hsh.2.2.2, if_pos rfl]
  unfold cellT
  rw [if_neg (by omega)]
 refine ⟨_, rfl, yes ((strEq_iff _ _).2 hT) ((Now_body N26 _ (by decide) (r := [w0b]) (by kernel_rfl) (n := 0) (by kernel_rfl) (by decide)).mono ?_)⟩
 rintro _ w28 ⟨rfl, N28⟩
 refine ⟨_, rfl, yes ((strEq_iff _ _).2 rfl) ((Now_live N28 _ (by decide) (by kernel_rfl)).mono ?_)⟩
 rintro _ w30 ⟨rfl, N30⟩
 refine ⟨_, rfl, yes (by decide +kernel) ((Now_here N30 _ (by decide) (by kernel_rfl) (it := fun n => if n = 0 then ⟨(Lib.decDigits 0).toArray⟩ else ByteArray.mk #[]) ?_ ?_ ?_).mono ?_)⟩
 ·intro v xv e he
  have he : e ∈ (setE [(((0, 0), C, false, 0) : En)] (x, y, z) b).1 := he
  rw [hset] at he
  rw [List.mem_singleton.1 he]
  exact ⟨itm_small (n := 0) (by decide) v, itm_small (n := 0) (by decide) v⟩
 ·show (setE [(((0, 0), C, false, 0) : En)] (x, y, z) b).1.length ≤ 400
  rw [hset]
  show (1 : Nat) ≤ 400
  decide
 ·intro n
  split
  ·exact dec_short (by decide)
  ·exact Nat.zero_le _
 ·rintro _ w32 ⟨rfl, N32⟩
  refine ⟨_, rfl, yes ((strEq_iff _ _).2 ?_) ?_⟩
  ·show joinK (hereT _ (setE [(((0, 0), C, false, 0) : En)] (x, y, z) b).1) = _
   rw [hset]
   show joinK [(⟨(Lib.decDigits 0).toArray⟩ : ByteArray), ⟨(Lib.decDigits 0).toArray⟩] = _
   decide +kernel
  ·have hx32 := N32.1
   have hc32 : w32.cell? ⟨0, 0, none⟩ = some (.int .i64 m) := by
    have : Vc.ld w (some ⟨0, 0, none⟩) = some (.int .i64 m) := hm
    exact hx32.ld this
   refine (lives22_spec hc32).mono ?_
   rintro _ w34 ⟨rfl, x34⟩
   exact ⟨_, rfl, rfl, hx32.tr x34⟩
theorem walk_LinesTells (a0 a1 a2 a3 a4 : Int) (w : World) (h0 : inI a0) (h1 : inI a1) (h2 : inI a2) (h3 : inI a3) (h4 : inI a4) (hs : w.ShapedOpen Tryz.prog) :
  Calls Tryz.prog 7 #[.int .i64 a0, .int .i64 a1, .int .i64 a2, .int .i64 a3, .int .i64 a4] w fun e w' => e = .returned (.bool true) ∧ Ext w w' := by
 obtain ⟨m, hm⟩ := maxLen_is hs
 exact LinesTells_law hm a0 a1 a2 a3 a4 h0 h1 h2 h3 h4
end Go.Proofs.YtjcnjlaelhdjeaaGreatDoor
