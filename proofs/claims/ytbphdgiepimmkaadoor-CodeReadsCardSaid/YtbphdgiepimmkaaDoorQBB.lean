import Derived.Test.YtbphdgiepimmkaaDoorQAA
set_option linter.all false
namespace Go.Proofs.YtbphdgiepimmkaaDoor
open Go Go.Vc Go.RowKit Go.Proofs Go.Runs Go.Code

/-- What Read answers. -/
abbrev RdRes (B : Nat) (p : List Rn × Int) (e : Ending) (w' : World) : Prop :=
  ∃ s : Sl, e = .returned (.tuple #[.slice s.a s.n s.c, .int .i64 p.2]) ∧ OwR B w' s p.1
theorem readG_cons (may : Int → Bool) (f : Nat) (c : Int) (t : List Int) (n last : Int) (acc : List Rn) : readG may (f + 1) (c :: t) n last acc =
    if may c = false ∨ c = last then ([], 2)
    else if (digB t).2.2 ≠ 0 then ([], (digB t).2.2)
    else if (digB t).1 = 0 ∨ (digB t).1 > n then ([], 2)
    else if n - (digB t).1 = 0 then (if t.drop (digB t).2.1.toNat = [] then (acc ++ [((digB t).1, c)], 0) else ([], 2))
    else readG may f (t.drop (digB t).2.1.toNat) (n - (digB t).1) c (acc ++ [((digB t).1, c)]) := rfl
theorem resNil {B : Nat} {p : List Rn × Int} {q : Int} {w' : World} (h : p = ([], q)) : RdRes B p (.returned (.tuple #[.slice none 0 0, .int .i64 q])) w' := by
  subst h; exact ⟨⟨none, 0, 0⟩, rfl, OwnK.nil⟩
theorem readG_fuel {may : Int → Bool} : ∀ (f g : Nat) (b : List Int) {n last : Int} {acc : List Rn} (_ : b.length < f) (_ : b.length < g), readG may f b n last acc = readG may g b n last acc
  | 0, _, _, _, _, _, h, _ => by omega
  | _ + 1, 0, _, _, _, _, _, h => by omega
  | f + 1, g + 1, [], _, _, _, _, _ => rfl
  | f + 1, g + 1, c :: t, n, last, acc, h1, h2 => by
    rw [readG_cons, readG_cons]
    have hd := digG_ok 3 0 0 t (by omega)
    rw [show digG 3 0 0 t = digB t from rfl] at hd
    simp only [List.length_cons] at h1 h2
    rw [readG_fuel f g (t.drop (digB t).2.1.toNat) (by rw [List.length_drop]; omega) (by rw [List.length_drop]; omega)]
theorem code_Read_spec (s : Sl) (b : List Int) (n : Int) (w : World) (hs : RdY w s b) (hb : InY b) (hc : s.n ≤ s.c) (hl : b.length ≤ 1099511627776) (hn : 1 ≤ n) (hn' : inI n) :
    Calls Tryd.prog n_code_Read #[.slice s.a s.n s.c, .int .i64 n] w fun e w' => RdRes w.heap.size (readB bMay b n) e w' ∧ Ext w w' := by
  unfold inI at hn'
  apply code_Read.vc
  refine ⟨fun m s3 last left o wr => ∃ (b' : List Int) (acc : List Rn), m = b'.length ∧ RdY w s3 b' ∧ s3.n ≤ s3.c ∧ InY b' ∧ acc.length + b'.length ≤ b.length ∧ 1 ≤ left ∧ left ≤ n ∧ Ext w wr ∧ OwR w.heap.size wr o acc ∧ readG bMay (b'.length + 1) b' left last acc = readB bMay b n, ⟨b.length, b, [], rfl, hs, hc, hb, by simp, hn, by omega, Ext.rfl' w, OwnK.nil, rfl⟩, ?_⟩
  rintro m us s3 last left o wr ⟨b', acc, rfl, h3, h3c, hb', hacc, hl1, hl2, xr, ho, heq⟩
  have hn3 := RdY.len h3
  refine Br.mk (fun h => ?_) (fun h => ?_) <;> simp only [decide_eq_true_eq, decide_eq_false_iff_not] at h
  · obtain ⟨c, t, rfl⟩ : ∃ c t, b' = c :: t := by
      cases b' with
      | nil => simp at hn3; omega
      | cons c t => exact ⟨c, t, rfl⟩
    have hci := hb' c (.head _)
    have htI : InY t := fun q hq => hb' q (.tail _ hq)
    simp only [List.length_cons] at hn3 hacc
    rw [readG_cons] at heq
    have hwc := wrap_in (n := c) (by unfold inI; omega)
    have hrt : RdY wr ⟨slBase s3.a 1 s3.n 1, s3.n - 1, s3.n - 1⟩ t := by
      have := RdK.rest (h3.ext xr) (l := 1) (m := s3.n) (n' := s3.n - 1) (c' := s3.n - 1) (by rw [List.length_map, List.length_cons]; omega) (fun e => by rw [List.length_map, List.length_cons]; omega)
      exact this
    refine ⟨RdY.inB h3 (i := 0) (by simp), c, RdY.c0 (h3.ext xr) (i := 0) rfl, ?_⟩
    rw [hwc]
    rintro w10 rfl w11 hw11
    have x11 : Ext w w11 := by rw [hw11]; exact ((xr.tr (Ext.al _ (.cells #[.int .i64 0, .int .i64 0] tRun))).setRow xr.size #[.int .i64 0, .int .i64 c])
    have xr11 : Ext wr w11 := by rw [hw11]; exact ((Ext.al wr (.cells #[.int .i64 0, .int .i64 0] tRun)).setRow (Nat.le_refl _) #[.int .i64 0, .int .i64 c])
    have hrow : Row w11 wr.heap.size [.int .i64 0, .int .i64 c] tRun := by rw [hw11]; exact (Row.new wr [.int .i64 0, .int .i64 0] tRun).set [.int .i64 0, .int .i64 c]
    clear hw11
    have bad : ∀ {q : Int} {w' : World}, Ext w w' → readB bMay b n = ([], q) → RdRes w.heap.size (readB bMay b n) (.returned (.tuple #[.slice none 0 0, .int .i64 q])) w' ∧ Ext w w' := fun x' e => ⟨resNil e, x'⟩
    refine (block_May_spec c w11).mono ?_
    rintro e w12 ⟨rfl, x12⟩
    have x112 := x11.tr x12
    have hrow12 := hrow.ext x12
    refine ⟨_, rfl, x12.heap hrow.lt, Br.mk (fun h1 => ?_) (fun h1 => Br.mk (fun h2 => ?_) (fun h2 => ?_))⟩
    · refine bad x112 ?_
      rw [← heq, if_pos (.inl (by simpa using h1))]
    · refine bad x112 ?_
      rw [← heq, if_pos (.inr (by simpa using h2))]
    have hm : bMay c = true := by simpa using h1
    have hl' : c ≠ last := by simpa using h2
    rw [if_neg (by rw [hm]; simp [hl'])] at heq
    refine ⟨by omega, by omega, by omega, by omega, by omega, by omega, ?_⟩
    refine (code_Digits_spec ⟨slBase s3.a 1 s3.n 1, s3.n - 1, s3.n - 1⟩ t w12 ((hrt.ext xr11).ext x12) htI (Nat.le_refl _)).mono ?_
    rintro e w14 ⟨rfl, rfl⟩
    have hdig := digG_ok 3 0 0 t (by omega)
    rw [show digG 3 0 0 t = digB t from rfl] at hdig
    generalize digB t = d at *
    obtain ⟨sz, kk, er⟩ := d
    simp only at *
    refine ⟨_, _, _, rfl, (by first | rfl | trivial), Br.mk (fun h3' => ?_) (fun h3' => ?_)⟩
    · refine bad x112 ?_
      rw [← heq, if_pos (by simpa using h3')]
    have her : er = 0 := by simpa using h3'
    subst her
    have hd := hdig rfl
    rw [if_neg (by simp)] at heq
    refine Br.mk (fun h4 => ?_) (fun h4 => Br.mk (fun h5 => ?_) (fun h5 => ?_)) <;> simp only [beq_iff_eq, beq_eq_false_iff_ne, decide_eq_true_eq, decide_eq_false_iff_not] at h4
    · refine bad x112 ?_
      rw [← heq, if_pos (.inl h4)]
    · simp only [decide_eq_true_eq] at h5
      refine bad x112 ?_
      rw [← heq, if_pos (.inr h5)]
    simp only [decide_eq_false_iff_not] at h5
    rw [if_neg (by omega)] at heq
    have hwl := wrap_in (n := left - sz) (by unfold inI; omega)
    have hwk := wrap_in (n := 1 + kk) (by unfold inI; omega)
    rw [hwl, hwk]
    rintro w18 hw18
    have x18 : Ext w w18 := by rw [hw18]; exact x112.setRow xr.size _
    have ho12 : OwR w.heap.size w14 o acc := OwnK.ext ho (xr11.tr x12)
    have ho18 : OwR w.heap.size w18.drew o acc := by
      refine OwnK.ext (OwnK.keep ho12 (w' := w18) ?_) (Ext.dr _)
      intro g hg
      have := (ho.own.lt hg).2
      rw [hw18, setRow_other _ _ _ _ (by omega)]
    have hlt18 : wr.heap.size < w18.heap.size := by rw [hw18, setRow_size]; exact hrow12.lt
    clear hw18
    have xd := x18.drew
    have hz : w18.drew.heap.size = w18.heap.size := rfl
    have hon := RdR.len ho18.rdr
    refine ⟨by omega, by omega, ?_⟩
    rintro w19 rfl
    obtain ⟨hp, hres⟩ := OwnK.app1 ho18 (bytes := 16) (news := rv (sz, c)) (.cells #[.int .i64 sz, .int .i64 c] tRun) xd.size rfl (one_ii _ _ _ _) (by omega) (by omega)
    refine ⟨hp, fun s20 w21 hr' => ?_⟩
    obtain ⟨k1, ho', _, xb, hkp, _⟩ := hres s20 w21 hr'
    have x21 : Ext w w21 := xd.trans xb
    have ho21 : OwR w.heap.size w21 s20 (acc ++ [(sz, c)]) := by
      show OwnK _ _ 2 _ _ ((acc ++ [(sz, c)]).map rv)
      rw [List.map_append]; exact ho'
    have hkeep : w21.heap[wr.heap.size]? = (w18.drew.alloc (.cells #[.int .i64 sz, .int .i64 c] tRun)).heap[wr.heap.size]? := by
      rw [hkp _ (fun hb => absurd (ho.own.lt hb).2 (Nat.lt_irrefl _)) (by omega)]
      symm
      exact (Ext.al _ _).heap (by omega)
    have hdl : (t.drop kk.toNat).length = t.length - kk.toNat := List.length_drop
    refine ⟨hkeep, k1, Br.mk (fun h6 => Br.mk (fun h7 => ?_) (fun h7 => Br.mk (fun h8 => ?_) (fun h8 => ?_))) (fun h6 => ?_)⟩ <;> simp only [beq_iff_eq, beq_eq_false_iff_ne] at h6
    · simp only [decide_eq_true_eq] at h7; omega
    · simp only [decide_eq_true_eq] at h8
      rw [if_pos h6, if_neg (by intro e; rw [e] at hdl; simp at hdl; omega)] at heq
      exact bad x21 heq.symm
    · simp only [decide_eq_false_iff_not] at h8
      rw [if_pos h6, if_pos (List.eq_nil_of_length_eq_zero (by omega))] at heq
      refine ⟨⟨s20, by rw [← heq], by rw [← heq]; exact ho21⟩, x21⟩
    · rw [if_neg h6] at heq
      have hrest := RdK.rest h3 (l := (1 + kk).toNat) (m := s3.c) (n' := s3.n - (1 + kk).toNat) (c' := s3.c - (1 + kk).toNat) (by rw [List.length_map, List.length_cons]; omega) (fun e => by rw [List.length_map, List.length_cons]; omega)
      rw [show (1 + kk).toNat = kk.toNat + 1 from by omega, List.map_cons, List.drop_succ_cons, ← List.map_drop] at hrest
      rw [show (1 + kk).toNat = kk.toNat + 1 from by omega]
      refine ⟨(t.drop kk.toNat).length, by simp only [List.length_cons]; omega, t.drop kk.toNat, acc ++ [(sz, c)], rfl, hrest, by show s3.n - (kk.toNat + 1) ≤ s3.c - (kk.toNat + 1); omega, fun q hq => htI q (List.mem_of_mem_drop hq), by simp only [List.length_append, List.length_cons, List.length_nil]; omega, by omega, by omega, x21, ho21, ?_⟩
      rw [← heq]
      exact readG_fuel _ _ _ (by omega) (by simp only [List.length_cons]; omega)
  · have : b' = [] := List.eq_nil_of_length_eq_zero (by omega)
    subst this
    have e : readB bMay b n = ([], 3) := by
      rw [← heq]; show (if left > 0 then ([], 3) else (acc, 0)) = _
      rw [if_pos (by omega)]
    refine Br.mk (fun _ => ⟨resNil e, xr⟩) (fun h2 => ?_)
    simp only [decide_eq_false_iff_not] at h2
    omega
end Go.Proofs.YtbphdgiepimmkaaDoor
