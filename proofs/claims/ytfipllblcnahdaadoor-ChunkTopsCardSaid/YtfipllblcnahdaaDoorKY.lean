import Derived.Test.YtfipllblcnahdaaDoorKW
set_option linter.all false
namespace Go.Proofs.YtfipllblcnahdaaDoor
open Go Go.Vc Go.RowKit Go.Proofs Go.Chk Go.Runs

theorem yes {b : Bool} {A B : Prop} (hb : b = true) (h : A) : Br b A B := by subst hb; exact h
theorem nope {b : Bool} {A B : Prop} (hb : b = false) (h : B) : Br b A B := by subst hb; exact h
theorem nnS {a : Addr} {K : Prop} (h : K) : AndL (nnC (some a)) K := h
abbrev dvs (d : De) : List Value := [.int .i64 d.1, .int .i64 d.2.1, .int .i64 d.2.2.1.1, .int .i64 d.2.2.1.2.1, .int .i64 d.2.2.1.2.2, .int .i64 d.2.2.2.1, .int .i64 d.2.2.2.2.1, .int .i64 d.2.2.2.2.2]
/-- The cells behind the first k deeds. -/
def deedsK (P : Po) (C : List Int) (z : List De) (k : Nat) : List Int := (z.take k).foldl (deedK P) C
theorem deedsK_zero (P : Po) (C : List Int) (z : List De) : deedsK P C z 0 = C := rfl
theorem deedsK_succ {P : Po} {C : List Int} {z : List De} {k : Nat} {d : De} (h : z[k]? = some d) : deedsK P C z (k + 1) = deedK P (deedsK P C z k) d := by
  unfold deedsK
  rw [List.take_add_one, h, List.foldl_append]; rfl
theorem place_small (p : Po) : smallP (placeK p) := by
  have h1 := around_bd p.1 19 (by decide)
  have h2 := around_bd p.2 19 (by decide)
  unfold smallP placeK
  simp only
  omega
/-- A chunk, and the document's, beside each other: b0: the box of the place; b1: the box of the document's chunk. -/
structure Pl (w wr : World) (g : Nat) (sg sr : Sl) (P : Po) (C : List Int) (b0 b1 : Nat) : Prop where
  k : KIs wr g sg P C
  o : OwR 0 wr sr (ofC C)
  x : Ext w wr
  g0 : w.heap.size ≤ g
  r0 : Row wr b0 [.int .i64 P.1, .int .i64 P.2] tPo
  r1 : Row wr b1 [.int .i64 P.1, .int .i64 P.2, .slice sr.a sr.n sr.c] tK
  h1 : w.heap.size ≤ b1
theorem Pl.ext {w wr w2 : World} {g : Nat} {sg sr : Sl} {P : Po} {C : List Int} {b0 b1 : Nat} (h : Pl w wr g sg sr P C b0 b1) (x : Ext wr w2) : Pl w w2 g sg sr P C b0 b1 :=
  ⟨h.k.ext x, OwnK.ext h.o x, h.x.tr x, h.g0, h.r0.ext x, h.r1.ext x, h.h1⟩
theorem keepb {w1 w2 : World} {g : Nat} {s : Sl} {P : Po} {C : List Int} (hk : KIs w1 g s P C) (hm : Mod (fun i => i = g) w1 w2) {j : Nat} {cs : List Value} {t : TypeId} (hr : Row w1 j cs t) (ht : t ≠ tChunk) : w2.heap[j]? = w1.heap[j]? := hm.same j hr.lt (hr.ne hk.row ht)
theorem Pl.fin {w wr we wf : World} {g : Nat} {sg sr s' sr' : Sl} {P : Po} {C C' : List Int} {b0 b1 : Nat} (h : Pl w wr g sg sr P C b0 b1) (hk : KIs we g s' P C') (ho : OwR 0 we sr' (ofC C')) (hm : Mod (fun i => i = g) wr we)
    (e : wf = we.setRow b1 #[.int .i64 P.1, .int .i64 P.2, .slice sr'.a sr'.n sr'.c]) : Pl w wf g s' sr' P C' b0 b1 ∧ Mod (fun i => i = g ∨ i = b1) wr wf ∧ wf.heap.size = we.heap.size := by
  have hr1 := h.r1.same (keepb h.k hm h.r1 (by decide))
  have hr0 := h.r0.same (keepb h.k hm h.r0 (by decide))
  have n01 : b0 ≠ b1 := h.r0.ne h.r1 (by decide)
  refine ⟨⟨hk.set hr1 (by decide) e, own_set ho hr1 (by decide) e, ?_, h.g0, hr0.same (by rw [e]; exact setRow_other _ _ _ _ n01), by rw [e]; exact hr1.set [_, _, _], h.h1⟩, ?_, by rw [e, setRow_size]⟩
  · exact (Turn_k hm h.x h.g0).of_setRow e h.h1
  · rw [e]
    exact ⟨hm.os, hm.tape, hm.output, by rw [setRow_size]; exact hm.size, fun i hi hn => by
      rw [setRow_other _ _ _ _ (fun e => hn (.inr e))]
      exact hm.same i hi fun e => hn (.inl e)⟩
theorem Pl.roundA {w wr wd wx we wf : World} {g : Nat} {sg sr s' sr' : Sl} {P : Po} {C C' : List Int} {b0 b1 : Nat} (h : Pl w wr g sg sr P C b0 b1) (hk : KIs wd g s' P C') (ho : OwR 0 wd sr' (ofC C')) (hm : Mod (fun i => i = g) wr.drew wd)
    {cs c2 : Array Value} {t : TypeId} (ex : wx = wd.alloc (.cells cs t)) (ee : we = wx.setRow wd.heap.size c2)
    (e : wf = we.setRow b1 #[.int .i64 P.1, .int .i64 P.2, .slice sr'.a sr'.n sr'.c]) : Pl w wf g s' sr' P C' b0 b1 ∧ Mod (fun i => i = g ∨ i = b1) wr wf ∧ wf.heap.size = wd.heap.size + 1 := by
  have x : Ext wd we := ((Ext.rfl' _).of_alloc ex).of_setRow ee (Nat.le_refl _)
  obtain ⟨q1, q2, q3⟩ := h.fin (hk.ext x) (OwnK.ext ho x) (((Mod.of_ext (Ext.dr wr)).trans hm).trans (Mod.of_ext x)) e
  exact ⟨q1, q2, by rw [q3, ee, setRow_size, ex]; simp⟩
theorem Pl.roundB {w wr wq wd we wf : World} {g : Nat} {sg sr s' sr' : Sl} {P : Po} {C C' : List Int} {b0 b1 : Nat} (h : Pl w wr g sg sr P C b0 b1) (eq : wq = wr.drew.alloc (.cells #[.int .i64 0, .int .i64 0, .slice none 0 0] tK))
    (hk : KIs wd g s' P C') (ho : OwR 0 wd sr' (ofC C')) (hm : Mod (fun i => i = g) wq wd) {c2 : Array Value} (ee : we = wd.setRow wr.drew.heap.size c2)
    (e : wf = we.setRow b1 #[.int .i64 P.1, .int .i64 P.2, .slice sr'.a sr'.n sr'.c]) : Pl w wf g s' sr' P C' b0 b1 ∧ Mod (fun i => i = g ∨ i = b1) wr wf ∧ wf.heap.size = wd.heap.size := by
  have hq : Row wq wr.drew.heap.size [.int .i64 0, .int .i64 0, .slice none 0 0] tK := by rw [eq]; exact Row.new wr.drew [_, _, _] _
  have hxq : Ext wr wq := (Ext.dr wr).of_alloc eq
  have hd := hq.same (keepb (h.k.ext hxq) hm hq (by decide))
  have hmd : Mod (fun i => i = g) wr wd := (Mod.of_ext hxq).trans hm
  obtain ⟨q1, q2, q3⟩ := h.fin (hk.set hd (by decide) ee) (own_set ho hd (by decide) ee) (mod_set hmd ee (Nat.le_refl _)) e
  exact ⟨q1, q2, by rw [q3, ee, setRow_size]⟩
theorem Pl.lt0 {w wr : World} {g : Nat} {sg sr : Sl} {P : Po} {C : List Int} {b0 b1 : Nat} (h : Pl w wr g sg sr P C b0 b1) : b0 < wr.heap.size ∧ b1 < wr.heap.size ∧ g < wr.heap.size := ⟨h.r0.lt, h.r1.lt, h.k.row.lt⟩
/-- What a deed finds: the row of a list of deeds. -/
theorem deeds_row {w wr : World} {s : Sl} {z : List De} (hz : RdK w s 8 (z.map dvs)) (x : Ext w wr) {k : Nat} (hk : k < z.length) : ∃ d, z[k]? = some d ∧ LoadL wr (padd s.a (k * 8)) 0 (dvs d) ∧ InB s.a (k : Int) s.n := by
  obtain ⟨d, hd⟩ := get_lt hk
  have h2 := RdK.ext hz x
  refine ⟨d, hd, h2.loadL (by rw [List.getElem?_map, hd]; rfl), RdK.inB h2 (by decide) (by omega) ?_⟩
  have := hz.n
  rw [List.length_map] at this
  omega
end Go.Proofs.YtfipllblcnahdaaDoor
