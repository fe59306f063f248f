import Derived.Test.YtbnmglonbhdcbaaGreatDoorKU
import Derived.Test.YtbnmglonbhdcbaaGreatDoorGD
set_option linter.all false
namespace Go.Proofs.YtbnmglonbhdcbaaGreatDoor
open Go Go.Vc Go.RowKit Go.Proofs Go.Chk Go.Runs Go.Code

/-- A deed. -/
structure Dd where
  k : Int
  px : Int
  pz : Int
  cx : Int
  cy : Int
  cz : Int
  b : Int
  n : Int
  t : Sl
  y : List Int
abbrev dR (d : Dd) : List Value := [.int .i64 d.k, .int .i64 d.px, .int .i64 d.pz, .int .i64 d.cx, .int .i64 d.cy, .int .i64 d.cz, .int .i64 d.b, .int .i64 d.n, .slice d.t.a d.t.n d.t.c]
structure DdOk (w : World) (d : Dd) : Prop where
  i : inI d.k ∧ inI d.px ∧ inI d.pz ∧ inI d.cx ∧ inI d.cy ∧ inI d.cz ∧ inI d.b ∧ inI d.n
  t : RdY w d.t d.y
  y : Bys d.y
  c : d.t.n ≤ d.t.c
theorem dd_at {w w' : World} {s : Sl} {z : List Dd} (hs : RdK w s 9 (z.map dR)) (x : Ext w w') {k : Nat} {d : Dd} (hd : z[k]? = some d) : InB s.a (k : Int) s.n ∧ (padd s.a (((k : Nat) : Int).toNat * 9)).isSome = true ∧ ∀ j v, (dR d)[j]? = some v → ld w' (padd (padd s.a (((k : Nat) : Int).toNat * 9)) j) = some v := by
  have hk := (List.getElem?_eq_some_iff.1 hd).1
  have hn := hs.n
  rw [List.length_map] at hn
  have hin := RdK.inB (hs.ext x) (by decide) (i := (k : Int)) (by omega) (by omega)
  refine ⟨hin, ?_, fun j v hj => ?_⟩
  · rw [padd_isSome]; exact hin.1
  · exact (hs.ext x).at (i := k) (r := dR d) (by rw [List.getElem?_map, hd]; rfl) hj
theorem nnP {p : Option Addr} {K : Prop} (hp : p.isSome = true) (h : K) : AndL (nnC p) K := AndL_iff.2 ⟨nnC_iff.2 hp, h⟩
def in16 (c : Ce) : Ce := (around c.1 16, around c.2.1 32, around c.2.2 16)
theorem in16_ok (c : Ce) : okC (in16 c) ∧ inY (in16 c) ∧ pos (in16 c) = (0, 0) := by
  have h1 := around_bd c.1 16 (by decide)
  have h2 := around_bd c.2.1 32 (by decide)
  have h3 := around_bd c.2.2 16 (by decide)
  unfold in16 okC inI inY pos
  refine ⟨⟨by simp only; omega, by simp only; omega, by simp only; omega⟩, by simp only; omega, ?_⟩
  exact Prod.ext (by simp only; omega) (by simp only; omega)
/-- The chunk 0, 0 alone. -/
abbrev one0 (C : List Int) (d : Bool) : List En := [((0, 0), C, d, 0)]
theorem set_one {C : List Int} {d : Bool} {c : Ce} (hp : pos c = (0, 0)) (hy : inY c) {b : Int} (hb : bMay b = true) : setE (one0 C d) c b = (one0 (kSet (0, 0) C c b).1 (d || (kAt (0, 0) C c != b)), 0) := by
  unfold setE
  rw [hp, if_neg (by simp [firstI]), if_neg (by simpa using hy), if_neg (by rw [hb]; decide)]
  simp [firstI]
theorem at_one {C : List Int} {d : Bool} {c : Ce} (hp : pos c = (0, 0)) (hy : inY c) : atE (one0 C d) c = kAt (0, 0) C c := by
  unfold atE
  have hy1 : ¬ c.2.1 < 0 := by unfold inY at hy; omega
  rw [hp, if_neg (by simp [firstI]), if_neg hy1]
  simp [firstI]
abbrev K0 : List Int := [2 * idK (0, 0), 2 * idK (0, 0) + 1]
theorem inT00 : inT (0, 0) := by decide
theorem id00 : 1 ≤ idK (0, 0) ∧ idK (0, 0) ≤ 1099511627776 := idK_pos inT00
theorem save_one {n : Nat} {D : Dk} (h : Sfe K0 16393 n D) (hn : n < 1000000) {C : List Int} {d : Bool} (hg : goodL (one0 C d)) : (saveE D ((0, 0), C, d, 0)).2.2 = 0 ∧ (saveE D ((0, 0), C, d, 0)).2.1 = ((0, 0), C, false, 0) ∧ Sfe K0 16393 (n + 1) (saveE D ((0, 0), C, d, 0)).1 := by
  obtain ⟨g1, g2⟩ := hg _ (.head _)
  have hid := id00
  have hle : (wrB (ofC C)).length ≤ 16384 := chunk_le g1 g2
  cases d with
  | true =>
    obtain ⟨s1, s2, -, -, -⟩ := h.save (id := idK (0, 0)) (body := wrB (ofC C)) (by omega) (by simp) (by simp) (by omega) (by omega) (by omega)
    have e1 : saveE D ((0, 0), C, true, 0) = ((svS D (idK (0, 0)) (wrB (ofC C))).1, ((0, 0), C, decide ((svS D (idK (0, 0)) (wrB (ofC C))).2 ≠ 0), 0), (svS D (idK (0, 0)) (wrB (ofC C))).2) := rfl
    rw [e1]
    exact ⟨s1, by simp only; rw [s1]; rfl, s2⟩
  | false =>
    have e1 : saveE D ((0, 0), C, false, 0) = (D, ((0, 0), C, false, 0), 0) := rfl
    rw [e1]
    exact ⟨rfl, rfl, h.c, h.ok, h.k, h.ml, fun id => Int.le_trans (h.v id) (by omega), h.r⟩
theorem fl_one {D : Dk} {C : List Int} {d : Bool} : flE D (one0 C d) (0, 0) = (((saveE D ((0, 0), C, d, 0)).1, [(saveE D ((0, 0), C, d, 0)).2.1]), (saveE D ((0, 0), C, d, 0)).2.2) := by
  unfold flE
  rw [if_pos (by simp [firstI])]
  simp [firstI]
theorem dirty_one {C : List Int} {d : Bool} : dirtyE (one0 C d) (0, 0) = d := by
  unfold dirtyE
  rw [if_pos (by simp [firstI])]
  simp [firstI]
theorem kAt_same {C : List Int} (hl : C.length = 8192) {c : Ce} (hp : pos c = (0, 0)) (hy : inY c) {b : Int} (hb : bMay b = true) : kAt (0, 0) (kSet (0, 0) C c b).1 c = b := by
  rw [kAt_kSet hl hy hp.symm hb c hp.symm, if_pos rfl]
theorem off3 : offT tCe ∧ offT tPo := by decide
set_option maxRecDepth 100000 in
theorem TableDirty_law (seed : Int) (s : Sl) (z : List Dd) (w : World) (hs : RdK w s 9 (z.map dR)) (hz : ∀ d ∈ z, DdOk w d) : Calls Tryz.prog n_law12_TableDirty #[.int .i64 seed, .slice s.a s.n s.c] w fun e w' => e = .returned (.bool true) ∧ Ext w w' := by
  apply (law12_TableDirty.vc (a1 := s))
  have hsn := hs.n
  rw [List.length_map] at hsn
  refine (tiNew_spec seed 2 100000 w).mono ?_
  rintro e w0 ⟨t, rfl, h0, x0⟩
  have hlim : (min (max (2 : Int) 1) 16) = 2 := by decide
  rw [hlim] at h0
  refine ⟨_, rfl, Br.mk (fun h => by cases h) (fun _ => fun w2 e2 w3 e3 => ?_)⟩
  have x3 : Ext w0 w3 := ((Ext.rfl' _).of_alloc e2).of_setRow e3 (Nat.le_refl _)
  have hP3 : Row w3 w0.heap.size [.int .i64 0, .int .i64 0] tPo := by rw [e3]; exact Row.set (by rw [e2]; exact Row.new w0 [_, _] _) _
  clear e2 e3
  have h3 := h0.ext x3
  refine (tiDirty_spec h3 (0, 0)).mono ?_
  rintro e w4 ⟨rfl, x4⟩
  have h4 := h3.ext x4
  have hP4 := hP3.ext x4
  refine ⟨_, rfl, x4.heap hP3.lt, nope rfl ((tiLoad_spec h4 (Nat.zero_le _) (0, 0)).mono ?_)⟩
  rintro e w6 ⟨rfl, h6, k6⟩
  have e1 : ldE seed 2 ((dk0 100000, ([] : List En)) : Tb).1 ((dk0 100000, ([] : List En)) : Tb).2 (0, 0) = ((dk0 100000, one0 (made seed (0, 0)) false), 0) := ld_first seed 2 100000 (by decide) inT00
  rw [e1] at h6 ⊢
  generalize made seed (0, 0) = M at *
  have hP6 := k6.row hP4 off3.2
  refine ⟨_, rfl, k6 _ _ _ hP4 off3.2, nope rfl ((tiDirty_spec h6 (0, 0)).mono ?_)⟩
  rintro e w8 ⟨rfl, x8⟩
  have h8 := h6.ext x8
  have hP8 := hP6.ext x8
  refine ⟨_, rfl, x8.heap hP6.lt, nope dirty_one ?_⟩
  have hS0 : Sfe K0 16393 0 (dk0 100000) := Sfe.new (by decide)
  have hb0 : w0.heap.size < w8.heap.size := hP8.lt
  refine ⟨fun n i b wr => ∃ (k m : Nat) (C : List Int) (D : Dk), i = k ∧ k + n = z.length ∧ k ≤ 8 ∧ m ≤ k ∧ TI w wr t seed 2 (D, one0 C b) ∧ Sfe K0 16393 m D ∧ Row wr w0.heap.size [.int .i64 0, .int .i64 0] tPo,
    ⟨z.length, rfl, 0, 0, M, dk0 100000, rfl, by omega, by omega, Nat.le_refl _, h8, hS0, hP8⟩, ?_⟩
  rintro n11 us i b w15 ⟨k, m, C, D, rfl, hk, hk8, hmk, hT, hS, hP⟩
  have xw := hT.x
  have goal : ∀ {wz : World}, TI w wz t seed 2 (D, one0 C b) → Row wz w0.heap.size [.int .i64 0, .int .i64 0] tPo → Calls Tryz.prog n_table_Table_FlushAll #[.pointer (some ⟨t, 0, none⟩)] wz fun e w' => ∃ c : Int, e = .returned (.tuple #[.int .i64 c, .int .i64 0]) ∧ (c == 1) = b ∧ w'.heap[w0.heap.size]? = wz.heap[w0.heap.size]? ∧ Row w' w0.heap.size [.int .i64 0, .int .i64 0] tPo ∧ ∃ T, TI w w' t seed 2 T ∧ dirtyE T.2 (0, 0) = false := by
    intro wz hTz hPz
    obtain ⟨s1, s2, s3⟩ := save_one hS (by omega) hTz.good
    refine (tiFlushAll_spec hTz (by rw [hS.c.l]; exact Nat.zero_le _)).mono ?_
    rintro e w' ⟨rfl, hT', k'⟩
    have ef : flallE D (one0 C b) = (((saveE D ((0, 0), C, b, 0)).1, [(saveE D ((0, 0), C, b, 0)).2.1]), if b = true then 0 + 1 else 0, 0) := by
      show flG D [] (one0 C b) 0 = _
      unfold flG
      rw [if_pos s1]; rfl
    have hT' : TI w w' t seed 2 (flallE D (one0 C b)).1 := hT'
    rw [ef] at hT'
    refine ⟨_, by show Ending.returned (.tuple #[.int .i64 (flallE D (one0 C b)).2.1, .int .i64 (flallE D (one0 C b)).2.2]) = _; rw [ef], ?_, k' _ _ _ hPz off3.2, k'.row hPz off3.2, _, hT', ?_⟩
    · cases b <;> rfl
    · simp only; rw [s2]; exact dirty_one
  have tail : ∀ {wz : World}, TI w wz t seed 2 (D, one0 C b) → Row wz w0.heap.size [.int .i64 0, .int .i64 0] tPo → Calls Tryz.prog n_table_Table_FlushAll #[.pointer (some ⟨t, 0, none⟩)] wz fun e w81 => ∃ (x82 : Int) (x83 : Int), e = .returned (.tuple #[.int .i64 x82, .int .i64 x83]) ∧ w81.heap[w0.heap.size]? = wz.heap[w0.heap.size]? ∧
      Br (((x82 : Int) == 1) == b)
       (Br ((x83 : Int) == 0)
       (Calls Tryz.prog n_table_Table_Dirty #[.pointer (some ⟨t, 0, none⟩), .agg #[.int .i64 0, .int .i64 0]] w81 (fun e w84 => ∃ (b85 : Bool), e = .returned (.bool b85) ∧ w84.heap[w0.heap.size]? = w81.heap[w0.heap.size]? ∧
       Br (!b85)
       (Calls Tryz.prog n_law12_lives #[] w84 (fun e w86 => ∃ (b87 : Bool), e = .returned (.bool b87) ∧ w86.heap[w0.heap.size]? = w84.heap[w0.heap.size]? ∧
       (Ending.returned (.bool b87) = .returned (.bool true) ∧ Ext w w86)))
       (Ending.returned (.bool false) = .returned (.bool true) ∧ Ext w w84)))
       (Ending.returned (.bool false) = .returned (.bool true) ∧ Ext w w81))
       (Ending.returned (.bool false) = .returned (.bool true) ∧ Ext w w81) := by
    intro wz hTz hPz
    refine (goal hTz hPz).mono ?_
    rintro e w81 ⟨c, rfl, hcb, f1, hP81, T, hT81, hd81⟩
    refine ⟨_, _, rfl, f1, yes (by rw [hcb]; simp) (yes rfl ((tiDirty_spec hT81 (0, 0)).mono ?_))⟩
    rintro e w84 ⟨rfl, x84⟩
    refine ⟨_, rfl, x84.heap hP81.lt, yes (by rw [hd81]; rfl) ((lives12_spec w84).mono ?_)⟩
    rintro e w86 ⟨rfl, x86⟩
    exact ⟨_, rfl, x86.heap (hP81.ext x84).lt, rfl, hT81.x.tr (x84.tr x86)⟩
  refine Br.mk (fun hc => Br.mk (fun hc8 => ?_) (fun _ => tail hT hP)) (fun _ => tail hT hP)
  simp only [decide_eq_true_eq] at hc hc8
  clear goal tail
  obtain ⟨d, hd⟩ := get_lt (l := z) (i := k) (by omega)
  have hdk := hz d (List.mem_of_getElem? hd)
  obtain ⟨hin, hso, hld⟩ := dd_at hs (xw.tr (Ext.dr w15)) hd
  have hso3 : (padd (padd s.a (((k : Nat) : Int).toNat * 9)) 3).isSome = true := by rw [padd_isSome]; exact hso
  have p0 : padd (padd (padd s.a (((k : Nat) : Int).toNat * 9)) 3) 0 = padd (padd s.a (((k : Nat) : Int).toNat * 9)) 3 := padd_zero _
  have p1 : padd (padd (padd s.a (((k : Nat) : Int).toNat * 9)) 3) 1 = padd (padd s.a (((k : Nat) : Int).toNat * 9)) 4 := padd_padd _ _ _
  have p2 : padd (padd (padd s.a (((k : Nat) : Int).toNat * 9)) 3) 2 = padd (padd s.a (((k : Nat) : Int).toNat * 9)) 5 := padd_padd _ _ _
  obtain ⟨okc, yc, pc⟩ := in16_ok (d.cx, d.cy, d.cz)
  have hcd : in16 (d.cx, d.cy, d.cz) = (around d.cx 16, around d.cy 32, around d.cz 16) := rfl
  obtain ⟨-, -, -, icx, icy, icz, ib, inn⟩ := hdk.i
  have wk : IntKind.wrap .i64 ((k : Int) + 1) = ((k + 1 : Nat) : Int) := by rw [wrap_in (by unfold inI; omega)]; omega
  refine ⟨fun p w' => ∃ bc, p = some ⟨bc, 0, none⟩ ∧ Row w' bc [.int .i64 (around d.cx 16), .int .i64 (around d.cy 32), .int .i64 (around d.cz 16)] tCe ∧ Ext w15 w', ?_, ?_⟩
  · have ldx : ∀ {v}, Ext w15 v → ∀ j u, (dR d)[j]? = some u → LoadL v (padd (padd s.a (((k : Nat) : Int).toNat * 9)) j) 0 [u] := fun x j u hj => ldOne ((dd_at hs (xw.tr x) hd).2.2 j u hj)
    have leaf : ∀ wa wb : World, wa = w15.drew.alloc (.cells #[.int .i64 0, .int .i64 0, .int .i64 0] tCe) → wb = wa.setRow w15.drew.heap.size #[.int .i64 (around d.cx 16), .int .i64 (around d.cy 32), .int .i64 (around d.cz 16)] →
        ([.int .i64 0, .int .i64 0] : List Value) = [.int .i64 0, .int .i64 0] ∧ ∃ bc, some (Addr.mk w15.drew.heap.size 0 none) = some ⟨bc, 0, none⟩ ∧ Row wb bc [.int .i64 (around d.cx 16), .int .i64 (around d.cy 32), .int .i64 (around d.cz 16)] tCe ∧ Ext w15 wb := by
      intro wa wb ea eb
      refine ⟨rfl, _, rfl, ?_, ((Ext.dr w15).of_alloc ea).of_setRow eb (Nat.le_refl _)⟩
      rw [eb]; exact Row.set (by rw [ea]; exact Row.new w15.drew [_, _, _] _) _
    have s1 : ∀ w', Calls Tryz.prog n_ref01_Around #[.int .i64 d.cx, .int .i64 16] w' fun e w'' => e = .returned (.int .i64 (around d.cx 16)) ∧ w'' = w' := fun w' => around_spec _ _ w' icx (by decide) (by unfold inI; omega)
    have s2 : ∀ w', Calls Tryz.prog n_ref01_Around #[.int .i64 d.cy, .int .i64 32] w' fun e w'' => e = .returned (.int .i64 (around d.cy 32)) ∧ w'' = w' := fun w' => around_spec _ _ w' icy (by decide) (by unfold inI; omega)
    have s3 : ∀ w', Calls Tryz.prog n_ref01_Around #[.int .i64 d.cz, .int .i64 16] w' fun e w'' => e = .returned (.int .i64 (around d.cz 16)) ∧ w'' = w' := fun w' => around_spec _ _ w' icz (by decide) (by unfold inI; omega)
    have xd := Ext.dr w15
    rw [p0, p1, p2]
    refine ⟨hin, nnP hso (nnP hso3 ⟨_, hld 3 _ rfl, hin, nnP hso (nnP hso3 ⟨_, hld 4 _ rfl, hin, nnP hso (nnP hso3 ⟨_, hld 5 _ rfl, ?_⟩)⟩)⟩)⟩
    refine ⟨(s1 _).mono ?_, fun wa ea => ?_⟩
    · rintro e w9 ⟨rfl, hw⟩; subst hw
      refine ⟨_, rfl, rfl, ldx xd 5 _ rfl, ldx xd 4 _ rfl, (s2 _).mono ?_, fun wa ea => ?_⟩
      · rintro e w11 ⟨rfl, hw⟩; subst hw
        refine ⟨_, rfl, rfl, ldx xd 5 _ rfl, (s3 _).mono ?_, fun wa ea => ?_⟩
        · rintro e w13 ⟨rfl, hw⟩; subst hw
          exact ⟨_, rfl, rfl, fun wa ea wb eb => leaf wa wb ea eb, fun wa ea wb eb => leaf wa wb ea eb⟩
        · refine (s3 _).mono ?_
          rintro e w20 ⟨rfl, hw⟩; subst hw
          exact ⟨_, rfl, rfl, rfl, fun wb eb => leaf _ wb ea eb⟩
      · have xa := xd.of_alloc ea
        refine (s2 _).mono ?_
        rintro e w24 ⟨rfl, hw⟩; subst hw
        refine ⟨_, rfl, rfl, rfl, ldx xa 5 _ rfl, (s3 _).mono ?_⟩
        rintro e w26 ⟨rfl, hw⟩; subst hw
        exact ⟨_, rfl, rfl, rfl, fun wb eb => leaf _ wb ea eb⟩
    · have xa := xd.of_alloc ea
      refine (s1 _).mono ?_
      rintro e w30 ⟨rfl, hw⟩; subst hw
      refine ⟨_, rfl, rfl, rfl, ldx xa 5 _ rfl, ldx xa 4 _ rfl, (s2 _).mono ?_⟩
      rintro e w32 ⟨rfl, hw⟩; subst hw
      refine ⟨_, rfl, rfl, rfl, ldx xa 5 _ rfl, (s3 _).mono ?_⟩
      rintro e w34 ⟨rfl, hw⟩; subst hw
      exact ⟨_, rfl, rfl, rfl, fun wb eb => leaf _ wb ea eb⟩
  rintro us49 p50 w51 ⟨bc, rfl, hC51, x51⟩
  generalize in16 (d.cx, d.cy, d.cz) = c at *
  have hT51 := hT.ext x51
  have hP51 := hP.ext x51
  obtain ⟨hin, hso, hld⟩ := dd_at hs (xw.tr x51) hd
  rw [← show c.1 = around d.cx 16 by rw [hcd], ← show c.2.1 = around d.cy 32 by rw [hcd], ← show c.2.2 = around d.cz 16 by rw [hcd]] at hC51
  have mb := (bGood_bd d.b).2.2
  refine ⟨hin, nnP hso ⟨_, hld 6 _ rfl, (ref04_Good_spec d.b w51 ib).mono ?_⟩⟩
  rintro e w53 ⟨rfl, hw⟩
  subst hw
  have rowC : ∀ {v : World}, Row v bc [.int .i64 c.1, .int .i64 c.2.1, .int .i64 c.2.2] tCe → LoadL v (some ⟨bc, 0, none⟩) 0 [.int .i64 c.1, .int .i64 c.2.1, .int .i64 c.2.2] := fun h => h.loadL fun j hj => by rw [Nat.zero_add]
  refine ⟨_, rfl, rfl, _, _, _, rowC hC51, (tiAt_spec hT51 c okc).mono ?_⟩
  rintro e w58 ⟨rfl, x58⟩
  have hT58 := hT51.ext x58
  have hP58 := hP51.ext x58
  have hC58 := hC51.ext x58
  refine ⟨_, rfl, x58.heap hP51.lt, _, _, _, rowC hC58, (tiSet_spec hT58 c okc (bGood d.b)).mono ?_⟩
  rintro e w63 ⟨rfl, hT63, k63⟩
  have hl : C.length = 8192 := (hT.good _ (.head _)).1
  have es := set_one (C := C) (d := b) pc yc mb
  have hT63 : TI w w63 t seed 2 (D, (setE (one0 C b) c (bGood d.b)).1) := hT63
  rw [es] at hT63
  have hP63 := k63.row hP58 off3.2
  have hC63 := k63.row hC58 off3.1
  have ea : atE (one0 C b) c = kAt (0, 0) C c := at_one pc yc
  refine ⟨_, rfl, k63 _ _ _ hP58 off3.2, nope (by show ((setE (one0 C b) c (bGood d.b)).2 != 0) = false; rw [es]; rfl) ⟨_, _, _, rowC hC63, (tiAt_spec hT63 c okc).mono ?_⟩⟩
  rintro e w68 ⟨rfl, x68⟩
  have hT68 := hT63.ext x68
  have hP68 := hP63.ext x68
  refine ⟨_, rfl, x68.heap hP63.lt, nope (by show (atE (one0 _ _) c != bGood d.b) = false; rw [at_one pc yc, kAt_same hl pc yc mb]; simp) ?_⟩
  refine ⟨fun q wq => q = (b || (kAt (0, 0) C c != bGood d.b)) ∧ wq = w68, ?_, ?_⟩
  · refine Br.mk (fun hb => ?_) (fun hb => ?_)
    · exact ⟨rfl, by rw [hb]; rfl, rfl⟩
    · refine ⟨rfl, ?_, rfl⟩
      show (atE (one0 C b) c != bGood d.b) = _
      rw [ea, hb]; rfl
  rintro us71 q w73 ⟨rfl, rfl⟩
  generalize hq : (b || (kAt (0, 0) C c != bGood d.b)) = q at *
  generalize (kSet (0, 0) C c (bGood d.b)).1 = C' at *
  refine (tiDirty_spec hT68 (0, 0)).mono ?_
  rintro e w74 ⟨rfl, x74⟩
  have hT74 := hT68.ext x74
  have hP74 := hP68.ext x74
  obtain ⟨hin, hso, hld⟩ := dd_at hs hT74.x hd
  refine ⟨_, rfl, x74.heap hP68.lt, nope (by show (!(dirtyE (one0 C' q) (0, 0) == q)) = false; rw [dirty_one]; simp) ⟨hin, nnP hso ⟨_, hld 7 _ rfl, Br.mk (fun _ => ?_) (fun _ => ?_)⟩⟩⟩
  · obtain ⟨s1, s2, s3⟩ := save_one hS (by omega) hT74.good
    refine (tiFlush_spec hT74 (by rw [hS.c.l]; exact Nat.zero_le _) (0, 0)).mono ?_
    rintro e w77 ⟨rfl, hT77, k77⟩
    have hT77 : TI w w77 t seed 2 (flE D (one0 C' q) (0, 0)).1 := hT77
    rw [fl_one, s2] at hT77
    have hP77 := k77.row hP74 off3.2
    refine ⟨_, rfl, k77 _ _ _ hP74 off3.2, nope (by show ((flE D (one0 C' q) (0, 0)).2 != 0) = false; rw [fl_one, s1]; rfl) ((tiDirty_spec hT77 (0, 0)).mono ?_)⟩
    rintro e w79 ⟨rfl, x79⟩
    exact ⟨_, rfl, x79.heap hP77.lt, nope dirty_one ⟨n11 - 1, by omega, rfl, k + 1, m + 1, C', _, wk, by omega, by omega, by omega, hT77.ext x79, s3, hP77.ext x79⟩⟩
  · exact ⟨n11 - 1, by omega, rfl, k + 1, m, C', D, wk, by omega, by omega, by omega, hT74, hS, hP74⟩
end Go.Proofs.YtbnmglonbhdcbaaGreatDoor
