import Derived.Test.YtbnmglonbhdcbaaGreatDoorKE
import Derived.Test.YtbnmglonbhdcbaaGreatDoorGB
set_option linter.all false
namespace Go.Proofs.YtbnmglonbhdcbaaGreatDoor
open Go Go.Vc Go.RowKit Go.Proofs Go.Chk Go.Runs Go.Code

theorem ten {r : List Int} (h : r.length = 10) : ∃ k b px pz c1 c2 c3 d1 d2 d3, r = [k, b, px, pz, c1, c2, c3, d1, d2, d3] := by
  match r, h with
  | [k, b, px, pz, c1, c2, c3, d1, d2, d3], _ => exact ⟨k, b, px, pz, c1, c2, c3, d1, d2, d3, rfl⟩
theorem three {r : List Int} (h : r.length = 3) : ∃ a b c, r = [a, b, c] := by
  match r, h with
  | [a, b, c], _ => exact ⟨a, b, c, rfl⟩
theorem lim16 : min (max (16 : Int) 1) 16 = 16 := by decide
abbrev vI (r : List Int) : List Value := r.map fun n => .int .i64 n
theorem WorldChanges_law (seed : Int) (s1 s2 : Sl) (z1 z2 : List (List Int)) (w : World)
    (hs1 : RdK w s1 10 (z1.map vI)) (hz1 : ∀ r ∈ z1, r.length = 10 ∧ ∀ n ∈ r, inI n) (hs2 : RdK w s2 3 (z2.map vI)) (hz2 : ∀ r ∈ z2, r.length = 3 ∧ ∀ n ∈ r, inI n) :
    Calls Tryz.prog n_law13_WorldChanges #[.int .i64 seed, .slice s1.a s1.n s1.c, .slice s2.a s2.n s2.c] w fun e w' => e = .returned (.bool true) ∧ Ext w w' := by
  apply law13_WorldChanges.vc
  have hn1 := hs1.n
  have hn2 := hs2.n
  rw [List.length_map] at hn1 hn2
  refine (wNew_spec seed 16 0 w).mono ?_
  rintro e w0 ⟨oa, ta, Fa, rfl, hA, xA, fA⟩
  rw [lim16] at hA
  refine ⟨_, rfl, (wNew_spec seed 16 0 w0).mono ?_⟩
  rintro e w2 ⟨ob, tb, Fb, rfl, hB, xB, fB⟩
  rw [lim16] at hB
  have zA := xA.size
  have hP : Pw w w2 oa ta ob tb seed 16 [] [] [] [] ⟨none, 0, 0⟩ [] := ⟨⟨Fa, Fb, hA.ext xB, hB, fun i hi hb => by have := hA.lt hi; have := fB i hb; omega, fA, fun i hi => by have := fB i hi; omega, fun b hb => by cases hb⟩, xA.tr xB, OwnK.nil⟩
  refine ⟨_, rfl, Br.mk (fun h => by cases h) (fun _ => Br.mk (fun h => by cases h) (fun _ => (wTable_spec (hA.ext xB)).mono ?_))⟩
  rintro e w4 ⟨rfl, hw⟩
  subst hw
  refine ⟨_, rfl, (wTable_spec hB).mono ?_⟩
  rintro e w6 ⟨rfl, hw⟩
  subst hw
  clear hA hB
  refine ⟨_, rfl, Br.mk (fun h => by cases h) (fun _ => Br.mk (fun h => by cases h) (fun _ => ?_))⟩
  -- nine chunks come, of both
  refine ⟨fun n x w' => x + n = 2 ∧ -1 ≤ x ∧ ∃ l, Pw w w' oa ta ob tb seed 16 l [] l [] ⟨none, 0, 0⟩ [] ∧ nodL l ∧ ∀ e ∈ l, e.2.2.1 = false, ⟨3, by omega, by omega, [], hP, by unfold nodL; simp, by simp⟩, ?_⟩
  clear hP
  rintro n9 us10 x w12 ⟨hx, hx1, l0, hP, hnd, hcl⟩
  refine Br.mk (fun hb => ?_) (fun hb => ?_)
  · simp only [decide_eq_true_eq] at hb
    refine ⟨fun n z w' => z + n = 2 ∧ -1 ≤ z ∧ ∃ l, Pw w w' oa ta ob tb seed 16 l [] l [] ⟨none, 0, 0⟩ [] ∧ nodL l ∧ ∀ e ∈ l, e.2.2.1 = false, ⟨3, by omega, by omega, l0, hP, hnd, hcl⟩, ?_⟩
    clear hP hnd hcl l0
    rintro n15 us16 z w18 ⟨hz, hz1, l, hP, hnd, hcl⟩
    refine Br.mk (fun hb2 => ?_) (fun hb2 => ?_)
    · simp only [decide_eq_true_eq] at hb2
      refine (pwLoadA hP hcl (x, z)).mono ?_
      rintro e w20 ⟨rfl, h20⟩
      refine ⟨_, rfl, (pwLoadB h20 hcl (x, z)).mono ?_⟩
      rintro e w22 ⟨rfl, h22⟩
      have wr : IntKind.wrap .i64 (z + 1) = z + 1 := wrap_in (by unfold inI; omega)
      refine ⟨_, rfl, n15 - 1, by omega, ?_⟩
      rw [wr]
      exact ⟨by omega, by omega, _, h22, nod_ld hnd, clean_ld hcl⟩
    · simp only [decide_eq_false_iff_not] at hb2
      have wr : IntKind.wrap .i64 (x + 1) = x + 1 := wrap_in (by unfold inI; omega)
      refine ⟨n9 - 1, by omega, ?_⟩
      rw [wr]
      exact ⟨by omega, by omega, l, hP, hnd, hcl⟩
  -- what is done to the first
  clear hb hx hx1 x hcl
  refine ⟨fun w' => ∃ la ca, Pw w w' oa ta ob tb seed 16 la ca l0 [] ⟨none, 0, 0⟩ [] ∧ Inv l0 la ca ∧ ca.length ≤ 30, ?_, ?_⟩
  · refine ⟨fun n x w' => 0 ≤ x ∧ x + n = s1.n ∧ ∃ la ca, Pw w w' oa ta ob tb seed 16 la ca l0 [] ⟨none, 0, 0⟩ [] ∧ Inv l0 la ca ∧ (ca.length : Int) ≤ 2 * x ∧ ca.length ≤ 30, ⟨s1.n, Int.le_refl _, by omega, l0, [], hP, ⟨hnd, fun _ => Iff.rfl, fun _ => rfl, by simp⟩, by simp, by simp⟩, ?_⟩
    clear hP
    rintro n26 us27 x w29 ⟨hx0, hxn, la, ca, hP, hI, hcn, hc30⟩
    refine Br.mk (fun h1 => Br.mk (fun h2 => ?_) (fun h2 => ⟨la, ca, hP, hI, hc30⟩)) (fun h1 => ⟨la, ca, hP, hI, hc30⟩)
    simp only [decide_eq_true_eq] at h1 h2
    obtain ⟨r, hr⟩ := get_lt (l := z1) (i := x.toNat) (by omega)
    obtain ⟨hr10, hri⟩ := hz1 r (List.mem_of_getElem? hr)
    obtain ⟨k, b, px, pz, c1, c2, c3, d1, d2, d3, rfl⟩ := ten hr10
    have hc : okC (c1, c2, c3) := ⟨hri c1 (by simp), hri c2 (by simp), hri c3 (by simp)⟩
    have hd : okC (d1, d2, d3) := ⟨hri d1 (by simp), hri d2 (by simp), hri d3 (by simp)⟩
    have hro : ∀ {w'}, Ext w w' → RdK w' s1 10 (z1.map vI) := fun x => hs1.ext x
    have hri' : (z1.map vI)[x.toNat]? = some (vI [k, b, px, pz, c1, c2, c3, d1, d2, d3]) := by rw [List.getElem?_map, hr]; rfl
    have hib := hs1.inB (i := x) (by decide) hx0 (by omega)
    have wr : IntKind.wrap .i64 (x + 1) = x + 1 := wrap_in (by unfold inI; omega)
    refine ⟨hib, nnP hib.1 ⟨c1, c2, c3, rdPart (hro hP.x) hri' (fun m v hm => ?_), (rCell_spec (c1, c2, c3) hc w29).mono ?_⟩⟩
    · rcases m with _ | _ | _ | m
      · exact hm
      · exact hm
      · exact hm
      · simp at hm
    rintro e w34 ⟨rfl, x34⟩
    refine ⟨_, _, _, rfl, fun w38 e38 w39 e39 => ?_⟩
    have x39 : Ext w34 w39 := ((Ext.rfl' _).of_alloc e38).of_setRow e39 (Nat.le_refl _)
    have hR39 : Row w39 w34.heap.size (cR (cellK (c1, c2, c3))) tCe := by
      rw [e39]; exact Row.set (by rw [e38]; exact Row.new w34 [_, _, _] _) _
    clear e38 e39
    have hP39 := (hP.ext x34).ext x39
    have hck := cellK_ok (c1, c2, c3)
    refine ⟨hib, nnP hib.1 ⟨k, (hro hP39.x).at hri' (j := 0) rfl, Br.mk (fun hb => ?_) (fun hb => ?_)⟩⟩
    · have hPd := hP39.ext (Ext.dr w39)
      refine ⟨hib, nnP hib.1 ⟨d1, d2, d3, rdPart (hro hPd.x) hri' (fun m v hm => ?_), (rCell_spec (d1, d2, d3) hd w39.drew).mono ?_⟩⟩
      · rcases m with _ | _ | _ | m
        · exact hm
        · exact hm
        · exact hm
        · simp at hm
      rintro e w44 ⟨rfl, x44⟩
      have hR44 := hR39.ext ((Ext.dr w39).tr x44)
      refine ⟨_, _, _, rfl, x44.heap (hR39.ext (Ext.dr w39)).lt, row_at hR44, (pwSwapA (hPd.ext x44) _ _ hck (cellK_ok (d1, d2, d3)) (by omega)).mono ?_⟩
      rintro e w48 ⟨rfl, h48, k48⟩
      have hl := swC_len la ca (cellK (c1, c2, c3)) (cellK (d1, d2, d3))
      refine ⟨_, rfl, k48 _ _ hR44, n26 - 1, by omega, ?_⟩
      rw [wr]
      exact ⟨by omega, by omega, _, _, h48, hI.swap hP.goodA hck (cellK_ok (d1, d2, d3)), by omega, by omega⟩
    · have hPd := hP39.ext (Ext.dr w39)
      have hRd := hR39.ext (Ext.dr w39)
      refine ⟨hib, nnP hib.1 ⟨b, (hro hPd.x).at hri' (j := 1) rfl, (pwSetA hPd _ hck b (by omega)).mono ?_⟩⟩
      rintro e w51 ⟨rfl, h51, k51⟩
      have hl := wsC_len la ca (cellK (c1, c2, c3)) b
      refine ⟨_, rfl, k51 _ _ hRd, n26 - 1, by omega, ?_⟩
      rw [wr]
      exact ⟨by omega, by omega, _, _, h51, hI.set hP.goodA hck b, by omega, by omega⟩
  -- its changes, made again on the second
  clear hP
  rintro us53 w54 ⟨la, ca, hP, hI, hc30⟩
  refine (pwTake hP).mono ?_
  rintro e w55 ⟨sc, rfl, h55⟩
  clear hP
  refine ⟨sc, rfl, fun n x w' => ∃ i : Nat, x = i ∧ i + n = ca.length ∧ ∃ lb cb, Pw w w' oa ta ob tb seed 16 la [] lb cb sc ca ∧ nodL lb ∧ (∀ p, here1 lb p ↔ here1 l0 p) ∧ (∀ c, atE lb c = rep (atE l0) (ca.take i) c) ∧ cb.length ≤ i, ⟨ca.length, 0, rfl, by omega, l0, [], h55, hnd, fun _ => Iff.rfl, fun _ => rfl, by simp⟩, ?_⟩
  clear h55
  rintro n58 us59 x w61 ⟨i, rfl, hi, lb, cb, hP, hnb, hhb, hvb, hcb⟩
  have hrd := hP.own.rd (show 0 < 4 by decide)
  have hscn : sc.n = ca.length := by have := hrd.n; rwa [List.length_map] at this
  refine Br.mk (fun hb => ?_) (fun hb => ?_)
  · simp only [decide_eq_true_eq] at hb
    obtain ⟨g, hg⟩ := get_lt (l := ca) (i := i) (by omega)
    have hPd := hP.ext (Ext.dr w61)
    have hrdd := hPd.own.rd (show 0 < 4 by decide)
    have hgr : (ca.map cgv)[i]? = some (cgv g) := by rw [List.getElem?_map, hg]; rfl
    have hib := hrd.inB (i := (i : Int)) (by decide) (by omega) (by omega)
    have hok := hI.ok g (List.mem_of_getElem? hg)
    obtain ⟨a1, a2, a3, a4⟩ := again hg hnb hP.goodB hhb hvb hok
    refine ⟨hib, nnP hib.1 ⟨g.1.1, g.1.2.1, g.1.2.2, rdPart hrdd hgr (fun m v hm => ?_), hib, nnP hib.1 ⟨g.2, hrdd.at hgr (j := 3) rfl, (pwSetB hPd g.1 hok.2.2.2 g.2 (by omega)).mono ?_⟩⟩⟩
    · rcases m with _ | _ | _ | m
      · exact hm
      · exact hm
      · exact hm
      · simp at hm
    rintro e w67 ⟨rfl, h67, -⟩
    rw [a1]
    have hl := wsC_len lb cb g.1 g.2
    have wr : IntKind.wrap .i64 ((i : Int) + 1) = ((i + 1 : Nat) : Int) := by rw [wrap_in (by unfold inI; omega)]; omega
    refine ⟨_, rfl, nope rfl ⟨n58 - 1, by omega, i + 1, wr, by omega, _, _, h67, a2, a3, a4, by omega⟩⟩
  simp only [decide_eq_false_iff_not] at hb
  have hfin : ∀ c, atE la c = atE lb c := fun c => by
    rw [hI.v, hvb, List.take_of_length_le (by omega)]
  clear hb hi hvb hhb hnb hrd hscn hI
  -- the cells of the deeds
  refine ⟨fun w' => Pw w w' oa ta ob tb seed 16 la [] lb cb sc ca, ?_, ?_⟩
  · refine ⟨fun n x w' => 0 ≤ x ∧ x + n = s1.n ∧ Pw w w' oa ta ob tb seed 16 la [] lb cb sc ca, ⟨s1.n, Int.le_refl _, by omega, hP⟩, ?_⟩
    clear hP
    rintro n71 us72 x w74 ⟨hx0, hxn, hP⟩
    refine Br.mk (fun h1 => Br.mk (fun h2 => ?_) (fun h2 => hP)) (fun h1 => hP)
    simp only [decide_eq_true_eq] at h1 h2
    obtain ⟨r, hr⟩ := get_lt (l := z1) (i := x.toNat) (by omega)
    obtain ⟨hr10, hri⟩ := hz1 r (List.mem_of_getElem? hr)
    obtain ⟨k, b, px, pz, c1, c2, c3, d1, d2, d3, rfl⟩ := ten hr10
    have hc : okC (c1, c2, c3) := ⟨hri c1 (by simp), hri c2 (by simp), hri c3 (by simp)⟩
    have hri' : (z1.map vI)[x.toNat]? = some (vI [k, b, px, pz, c1, c2, c3, d1, d2, d3]) := by rw [List.getElem?_map, hr]; rfl
    have hib := hs1.inB (i := x) (by decide) hx0 (by omega)
    have wr : IntKind.wrap .i64 (x + 1) = x + 1 := wrap_in (by unfold inI; omega)
    refine ⟨hib, nnP hib.1 ⟨c1, c2, c3, rdPart (hs1.ext hP.x) hri' (fun m v hm => ?_), (rCell_spec (c1, c2, c3) hc w74).mono ?_⟩⟩
    · rcases m with _ | _ | _ | m
      · exact hm
      · exact hm
      · exact hm
      · simp at hm
    rintro e w79 ⟨rfl, x79⟩
    refine ⟨_, _, _, rfl, fun w83 e83 w84 e84 => ?_⟩
    have x84 : Ext w79 w84 := ((Ext.rfl' _).of_alloc e83).of_setRow e84 (Nat.le_refl _)
    have hR84 : Row w84 w79.heap.size (cR (cellK (c1, c2, c3))) tCe := by
      rw [e84]; exact Row.set (by rw [e83]; exact Row.new w79 [_, _, _] _) _
    clear e83 e84
    have hck := cellK_ok (c1, c2, c3)
    have hPd := ((hP.ext x79).ext x84).ext (Ext.dr w84)
    have hRd := hR84.ext (Ext.dr w84)
    refine (pwAtA hPd _ hck).mono ?_
    rintro e w85 ⟨rfl, x85⟩
    refine ⟨_, rfl, x85.heap hRd.lt, row_at (hRd.ext x85), (pwAtB (hPd.ext x85) _ hck).mono ?_⟩
    rintro e w87 ⟨rfl, x87⟩
    refine ⟨_, rfl, x87.heap (hRd.ext x85).lt, nope (by rw [hfin]; simp) ⟨n71 - 1, by omega, ?_⟩⟩
    rw [wr]
    exact ⟨by omega, by omega, (hPd.ext x85).ext x87⟩
  -- any cells
  clear hP
  rintro us89 w90 hP
  refine ⟨fun w' => Pw w w' oa ta ob tb seed 16 la [] lb cb sc ca, ?_, ?_⟩
  · refine ⟨fun n x w' => 0 ≤ x ∧ x + n = s2.n ∧ Pw w w' oa ta ob tb seed 16 la [] lb cb sc ca, ⟨s2.n, Int.le_refl _, by omega, hP⟩, ?_⟩
    clear hP
    rintro n93 us94 x w96 ⟨hx0, hxn, hP⟩
    refine Br.mk (fun h1 => Br.mk (fun h2 => ?_) (fun h2 => hP)) (fun h1 => hP)
    simp only [decide_eq_true_eq] at h1 h2
    obtain ⟨r, hr⟩ := get_lt (l := z2) (i := x.toNat) (by omega)
    obtain ⟨hr3, hri⟩ := hz2 r (List.mem_of_getElem? hr)
    obtain ⟨c1, c2, c3, rfl⟩ := three hr3
    have hc : okC (c1, c2, c3) := ⟨hri c1 (by simp), hri c2 (by simp), hri c3 (by simp)⟩
    have hri' : (z2.map vI)[x.toNat]? = some (vI [c1, c2, c3]) := by rw [List.getElem?_map, hr]; rfl
    have hib := hs2.inB (i := x) (by decide) hx0 (by omega)
    have wr : IntKind.wrap .i64 (x + 1) = x + 1 := wrap_in (by unfold inI; omega)
    refine ⟨hib, c1, c2, c3, (hs2.ext hP.x).loadL hri', (rCell_spec (c1, c2, c3) hc w96).mono ?_⟩
    rintro e w101 ⟨rfl, x101⟩
    refine ⟨_, _, _, rfl, fun w105 e105 w106 e106 => ?_⟩
    have x106 : Ext w101 w106 := ((Ext.rfl' _).of_alloc e105).of_setRow e106 (Nat.le_refl _)
    have hR106 : Row w106 w101.heap.size (cR (cellK (c1, c2, c3))) tCe := by
      rw [e106]; exact Row.set (by rw [e105]; exact Row.new w101 [_, _, _] _) _
    clear e105 e106
    have hck := cellK_ok (c1, c2, c3)
    have hPd := ((hP.ext x101).ext x106).ext (Ext.dr w106)
    have hRd := hR106.ext (Ext.dr w106)
    refine (pwAtA hPd _ hck).mono ?_
    rintro e w107 ⟨rfl, x107⟩
    refine ⟨_, rfl, x107.heap hRd.lt, row_at (hRd.ext x107), (pwAtB (hPd.ext x107) _ hck).mono ?_⟩
    rintro e w109 ⟨rfl, x109⟩
    refine ⟨_, rfl, x109.heap (hRd.ext x107).lt, nope (by rw [hfin]; simp) ⟨n93 - 1, by omega, ?_⟩⟩
    rw [wr]
    exact ⟨by omega, by omega, (hPd.ext x107).ext x109⟩
  clear hP
  rintro us111 w112 hP
  refine (lives13_spec w112).mono ?_
  rintro e w113 ⟨rfl, x113⟩
  exact ⟨_, rfl, rfl, hP.x.tr x113⟩
end Go.Proofs.YtbnmglonbhdcbaaGreatDoor
