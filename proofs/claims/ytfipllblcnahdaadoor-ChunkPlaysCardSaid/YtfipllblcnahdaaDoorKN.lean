import Derived.Test.YtfipllblcnahdaaDoorKM
set_option linter.all false
namespace Go.Proofs.YtfipllblcnahdaaDoor
open Go Go.Vc Go.RowKit Go.Proofs Go.Chk Go.Runs

def nearK (p : Po) (c : Ce) : Ce := (p.1 * 16 + (c.1 % 20 - 2), c.2.1 % 34 - 1, p.2 * 16 + (c.2.2 % 20 - 2))
theorem near_ok {p : Po} (hp : okP p) (c : Ce) : okC (nearK p c) := by
  obtain ⟨⟨p1, p2⟩, p3, p4⟩ := hp
  unfold okC nearK inI
  simp only
  omega
theorem Near_spec (p : Po) (hp : okP p) (c : Ce) (w : World) : Calls Tryd.prog n_ref11_Near #[pv p, cev c] w fun e w' => e = .returned (cev (nearK p c)) ∧ Ext w w' := by
  apply ref11_Near.vc
  obtain ⟨⟨p1, p2⟩, p3, p4⟩ := hp
  intro w0 e0 w1 e1 w2 e2
  have z0 : w0.heap.size = w.heap.size + 1 := by rw [e0]; simp
  have z1 : w1.heap.size = w.heap.size + 2 := by rw [e1]; simp [z0]
  have x2 : Ext w w2 := (((Ext.rfl' w).of_alloc e0).of_alloc e1).of_alloc e2
  have hb : Row w2 w.heap.size [.int .i64 p.1, .int .i64 p.2] tPo := ((by rw [e0]; exact Row.new w [_, _] _ : Row w0 w.heap.size [.int .i64 p.1, .int .i64 p.2] tPo).ext ((Ext.rfl' _).of_alloc e1)).ext ((Ext.rfl' _).of_alloc e2)
  refine (rMod_spec c.1 20 (by decide) (by decide) w2).mono ?_
  rintro e w3 ⟨rfl, rfl⟩
  refine ⟨_, rfl, rfl, rfl, rfl, (rMod_spec c.2.2 20 (by decide) (by decide) _).mono ?_⟩
  rintro e w3 ⟨rfl, rfl⟩
  refine ⟨_, rfl, rfl, rfl, rfl, (rMod_spec c.2.1 34 (by decide) (by decide) _).mono ?_⟩
  rintro e w3 ⟨rfl, rfl⟩
  have hbd := hb.ext (Ext.dr _)
  refine ⟨_, rfl, rfl, rfl, rfl, hbd.loadL (fun j hj => by simp at hj; subst hj; rfl), hbd.loadL (fun j hj => by simp at hj; subst hj; rfl), fun w9 e9 => ⟨?_, x2.drew.of_setRow e9 (by omega)⟩⟩
  have e1 : IntKind.wrap .i64 (p.1 * 16) = p.1 * 16 := wrap_in (by unfold inI; omega)
  have e2 : IntKind.wrap .i64 (p.2 * 16) = p.2 * 16 := wrap_in (by unfold inI; omega)
  have e3 : IntKind.wrap .i64 (c.1 % 20 - 2) = c.1 % 20 - 2 := wrap_in (by unfold inI; omega)
  have e4 : IntKind.wrap .i64 (c.2.2 % 20 - 2) = c.2.2 % 20 - 2 := wrap_in (by unfold inI; omega)
  have e5 : IntKind.wrap .i64 (c.2.1 % 34 - 1) = c.2.1 % 34 - 1 := wrap_in (by unfold inI; omega)
  have e6 : IntKind.wrap .i64 (p.1 * 16 + (c.1 % 20 - 2)) = p.1 * 16 + (c.1 % 20 - 2) := wrap_in (by unfold inI; omega)
  have e7 : IntKind.wrap .i64 (p.2 * 16 + (c.2.2 % 20 - 2)) = p.2 * 16 + (c.2.2 % 20 - 2) := wrap_in (by unfold inI; omega)
  rw [e1, e2, e3, e4, e5, e6, e7]
  rfl
def placeK (p : Po) : Po := (around p.1 19 - 9, around p.2 19 - 9)
theorem place_ok (p : Po) : okP (placeK p) := by
  have h1 := around_bd p.1 19 (by decide)
  have h2 := around_bd p.2 19 (by decide)
  unfold okP placeK
  simp only
  omega
theorem place_spec (p : Po) (hp : inI p.1 ∧ inI p.2) (w : World) : Calls Tryd.prog n_law11_place #[pv p] w fun e w' => e = .returned (pv (placeK p)) ∧ Ext w w' := by
  apply law11_place.vc
  have h1 := around_bd p.1 19 (by decide)
  have h2 := around_bd p.2 19 (by decide)
  intro w0 e0 w1 e1
  have z0 : w0.heap.size = w.heap.size + 1 := by rw [e0]; simp
  have x1 : Ext w w1.drew := (((Ext.rfl' w).of_alloc e0).of_alloc e1).drew
  have hb : Row w1.drew w.heap.size [.int .i64 p.1, .int .i64 p.2] tPo := ((by rw [e0]; exact Row.new w [_, _] _ : Row w0 w.heap.size [.int .i64 p.1, .int .i64 p.2] tPo).ext ((Ext.rfl' _).of_alloc e1)).ext (Ext.dr _)
  refine (around_spec p.1 19 w1.drew hp.1 (by decide) (by unfold inI; omega)).mono ?_
  rintro e w2 ⟨rfl, rfl⟩
  refine ⟨_, rfl, rfl, rfl, hb.loadL (fun j hj => by simp at hj; subst hj; rfl), (around_spec p.2 19 w1.drew hp.2 (by decide) (by unfold inI; omega)).mono ?_⟩
  rintro e w2 ⟨rfl, rfl⟩
  refine ⟨_, rfl, rfl, rfl, fun w6 e6 => ⟨?_, x1.of_setRow e6 (by omega)⟩⟩
  have q1 : IntKind.wrap .i64 (around p.1 19 - 9) = around p.1 19 - 9 := wrap_in (by unfold inI; omega)
  have q2 : IntKind.wrap .i64 (around p.2 19 - 9) = around p.2 19 - 9 := wrap_in (by unfold inI; omega)
  rw [q1, q2]
  rfl
end Go.Proofs.YtfipllblcnahdaaDoor
