import Derived.Test.YtjcnjlaelhdjeaaGreatDoorJ
import Derived.Test.YtjcnjlaelhdjeaaGreatDoorF
import Derived.Test.YtjcnjlaelhdjeaaGreatDoorE
set_option linter.all false
namespace Go.Proofs.YtjcnjlaelhdjeaaGreatDoor
open Go Go.Vc Go.RowKit Go.Proofs Go.Chk Go.Runs Go.Code
set_option maxRecDepth 100000 in
theorem dSync_spec {w : World} {d : Nat} {m : Dm} {D : Dk} (h : DO w d m D) (hW : D.l.length ≤ 1000000000) :
  Cal 294 #[d] w fun e w' => e = Value.int .i64 (syncD D).2 ∧ DRes w d m (syncD D).1 w' := by
 apply disk_Disk_Sync.vc
 refine (failed_spec h).mono ?_
 rintro e w0 ⟨rfl, h0, m0⟩
 have z0 := m0.size
 have m0' : Mod (fun i => i = d ∨ m.ls.blk = some i) w w0 := m0.mono fun i _ hi => .inl hi
 have hok := h.ok.sync
 obtain ⟨e1, e2, e3⟩ := askD_safe D
 refine ⟨_, rfl, Br.mk (fun hf => ?_) (fun hf => ?_)⟩
 ·have e : syncD D = ((askD D).1, 9) := by unfold syncD; rw [if_pos hf]
  rw [e]
  exact ⟨rfl, m, h0, m0', fun i hi => .inl hi, fun i hi => .inl hi⟩
 ·have e : syncD D = ({ (askD D).1 with safe := nowD D, l := [] }, 0) := by unfold syncD; rw [if_neg (by rw [hf]; decide)]
  rw [e] at hok ⊢
  refine (dNow_spec h0 (by rw [e2]; exact hW)).mono ?_
  rintro e w2 ⟨r', E', rfl, hm2, hp, hsub, x2, hr'⟩
  rw [now_ask] at hp
  have h2 := h0.ext x2
  have z2 := x2.size
  have hdl := h.rd.lt
  obtain ⟨p1, p2⟩ := h2.rd.put1 (j := 3) (v := .map (some r')) smm rfl
  refine ⟨_, rfl, ⟨rfl, p1⟩, fun w4 e4 => ?_⟩
  obtain ⟨q1, q2⟩ := p2 w4 e4
  obtain ⟨p3, p4⟩ := q1.put1 (j := 4) (v := .slice none 0 0) (show 4 < 5 by decide) rfl
  refine ⟨⟨rfl, p3⟩, fun w5 e5 => ⟨rfl, ⟨r', ⟨none, 0, 0⟩, E', []⟩, ?_, ?_, ?_, fun i q => by cases q⟩⟩
  ·obtain ⟨q3, q4⟩ := p4 w5 e5
   have mm := q2.trans q4
   refine ⟨q3, mm.map hm2 fun q => h2.rd.ne_map hm2 q.symm, OwnK.nil, hp, rfl, fun x hx => ?_, hok⟩
   have hx' : x ∈ E' := by simpa using hx
   have hbx := h2.bl x (hsub x hx')
   refine ⟨mm.ownK hbx.o fun g hg => ?_, hbx.b⟩
   obtain ⟨cs', hr2⟩ := own_row hbx.o dcc hg
   exact hr2.ne h2.rd dcc
  ·obtain ⟨q3, q4⟩ := p4 w5 e5
   exact (m0'.trans (Mod.of_ext x2)).trans ((q2.trans q4).mono fun i _ hi => .inl hi)
  ·rintro i (q | q | q | ⟨x, hx, q⟩)
   ·exact .inl (.inl q)
   ·exact .inr (by rw [q]; show _ ≤ r'; omega)
   ·cases q
   ·have hx' : x ∈ E' := by simpa using hx
    exact .inl (.inr (.inr (.inr ⟨x, hsub x hx', q⟩)))
set_option maxRecDepth 100000 in
theorem dFail_spec {w : World} {d : Nat} {m : Dm} {D : Dk} (h : DO w d m D) {n : Int} (hn : inI n) :
  Cal 122 #[d, n] w fun e w' => e = tqq ∧ DO w' d m (failD D n) ∧ Mod (fun i => i = d) w w' := by
 apply disk_Disk_Fail.vc
 have hok := h.ok.fail hn
 obtain ⟨p1, p2⟩ := h.rd.put1 (j := 1) (v := .int .i64 n) smm rfl
 refine ⟨⟨rfl, p1⟩, fun w0 e0 => ?_⟩
 obtain ⟨q1, q2⟩ := p2 w0 e0
 obtain ⟨p3, p4⟩ := q1.put1 (j := 2) (v := .int .i64 0) (show 2 < 5 by decide) rfl
 refine ⟨⟨rfl, p3⟩, fun w1 e1 => ?_⟩
 obtain ⟨q3, q4⟩ := p4 w1 e1
 have m1 := q2.trans q4
 unfold inI at hn
 apply Br.mk <;> intro hc
 ·replace hc := q0T hc
  have e : failD D n = { D with fails := min (-n) 1048576, wait := 1 } := by unfold failD; rw [if_pos hc]
  have e2 : wqq (0 - (if (-1048576) > n then (-1048576) else n)) = min (-n) 1048576 := by
   rw [wrap_in (by unfold inI; split <;> omega)]; split <;> omega
  rw [e2]
  rw [e] at hok ⊢
  obtain ⟨p5, p6⟩ := q3.put1 (j := 1) (v := .int .i64 (min (-n) 1048576)) (show 1 < 5 by decide) rfl
  refine ⟨⟨rfl, p5⟩, fun w2 e2 => ?_⟩
  obtain ⟨q5, q6⟩ := p6 w2 e2
  obtain ⟨p7, p8⟩ := q5.put1 (j := 2) (v := .int .i64 1) (show 2 < 5 by decide) rfl
  refine ⟨⟨rfl, p7⟩, fun w3 e3 => ?_⟩
  obtain ⟨q7, q8⟩ := p8 w3 e3
  have m3 := m1.trans (q6.trans q8)
  exact ⟨rfl, h.row m3 q7 hok, m3⟩
 ·replace hc := q0F hc
  have e : failD D n = { D with fails := n, wait := 0 } := by unfold failD; rw [if_neg hc]
  rw [e] at hok ⊢
  exact ⟨rfl, h.row m1 q3 hok, m1⟩
theorem lenB_take_le (l : List Wr1) (k : Nat) : lenB (l.take k) ≤ lenB l := by
 have := lenB_app (l.take k) (l.drop k)
 rw [alj52] at this; omega
theorem lenB_step {l : List Wr1} {k : Nat} {x : Wr1} (h : l[k]? = some x) : lenB (l.take (k + 1)) = lenB (l.take k) + x.2.length := by
 rw [ali09, h, lenB_app]; rfl
theorem dLeft_spec {w : World} {d : Nat} {m : Dm} {D : Dk} (h : DO w d m D) (hW : D.l.length ≤ 1000000000) (hL : lenB D.l ≤ 1099511627776) :
  Cal 303 #[d] w fun e w' => e = Value.int .i64 (lenB D.l : Nat) ∧ Ext w w' := by
 apply disk_Disk_Left.vc
 obtain ⟨n1, n2⟩ := h.nW
 refine ⟨m.ls, h.rd.at 4 rfl, fun n i c wr => ∃ k : Nat, i = k ∧ k + n = m.W.length ∧ c = (lenB (D.l.take k) : Nat) ∧ Ext w wr, ⟨m.W.length, 0, rfl, by omega, rfl, Ext.rfl' _⟩, ?_⟩
 rintro n us i c wr ⟨k, rfl, hk, rfl, xr⟩
 apply Br.mk <;> intro hc
 ·replace hc := q0T hc
  obtain ⟨x, hx⟩ := get_lt (l := m.W) (i := k) omm
  have hr := (h.ext xr).ol.rd (show 0 < 2 by decide)
  have hm2 : (m.W.map wV)[k]? = some (wV x) := by rw [ali02, hx]; rfl
  have wk := wkS (j := k)
  have hl : D.l[k]? = some (kb x) := by rw [← h.sl, ali02, hx]; rfl
  have hxn := RdY.n (OwY.rdy (h.bl x (ali25.2 (.inr (ali00 hx)))).o)
  have hst := lenB_step hl
  have hle := lenB_take_le D.l (k + 1)
  have e2 : (kb x).2.length = x.2.2.length := rfl
  refine ⟨RdK.inB hr dcc omm hc, x.1, x.2.1, RdK.loadL hr hm2, fun w12 e12 w13 e13 => ?_⟩
  have x13 : Ext wr w13 := (eaa e12).of_setRow e13 (ali34 _)
  refine ⟨n - 1, by omega, k + 1, wk, by omega, ?_, xr.tr x13⟩
  rw [wI]; omega
 ·replace hc := q0F hc
  rw [ali11 omm]
  exact ⟨rfl, xr⟩
theorem OwnK.cutc {B E k : Nat} {w : World} {s : Sl} {rows : List (LV)} (h : OwnK B E k w s rows) (hk : 0 < k) {m : Nat} (hm : m ≤ rows.length) (c' : Nat) : OwnK B E k w ⟨slBase s.a 0 c' k, m, s.c⟩ (rows.take m) := by
 rw [slBase_zero]
 rcases h.form hk with ⟨rfl, rfl⟩ | ⟨g, cs, ha, hg, hr, hc, hn, ht, hl⟩
 ·have : m = 0 := by simpa using hm
  subst this; exact .nil
 ·rw [ha]
  have h1 : m * k ≤ s.n * k := alj63 _ omm
  refine OwnK.of_row hg hr hc omm ?_ (fun r hr => h.wd r (alj44 hr))
  have e1 : cs.take (m * k) = (cs.take (s.n * k)).take (m * k) := by rw [List.take_take, Nat.min_eq_left h1]
  rw [e1, ht, take_flatten m h.wd]
theorem crash_step {n : Int} {s : List Wr1} {l : List Wr1} {k : Nat} {x : Wr1} (h : l[k]? = some x) : crashG n s (l.drop k) = if (x.2.length : Int) ≤ n then crashG (n - x.2.length) (lay s x) (l.drop (k + 1)) else lay s (x.1, x.2.take n.toNat) := by
 have hk := (ali03.1 h)
 rw [alj11 hk.1, hk.2]
 rfl
set_option maxRecDepth 100000 in
theorem dCrash_spec {w : World} {d : Nat} {m : Dm} {D : Dk} (h : DO w d m D) (hW : D.l.length ≤ 1000000000) (hL : lenB D.l ≤ 1099511627776) (keep : Int) :
  Cal 247 #[d, keep] w fun e w' => e = Value.int .i64 (crashD D keep).2 ∧ ∃ m', DO w' d m' (crashD D keep).1 ∧ Mod (fun i => i = d ∨ i = m.r) w w' ∧ (∀ i, dF d m' i → dF d m i ∨ w.heap.size ≤ i) := by
 apply disk_Disk_Crash.vc
 have hok := h.ok.crash keep
 refine (dLeft_spec h hW hL).mono ?_
 rintro e w0 ⟨rfl, x0⟩
 refine ⟨_, rfl, (dLeft_spec (h.ext x0) hW hL).mono ?_⟩
 rintro e w2 ⟨rfl, x2⟩
 have x02 := x0.tr x2
 have h2 := h.ext x02
 obtain ⟨n1, n2⟩ := h.nW
 have hkp : (if ((lenB D.l : Nat) : Int) < (if 0 > keep then 0 else keep) then ((lenB D.l : Nat) : Int) else (if 0 > keep then 0 else keep)) = keepD D keep := by unfold keepD; split <;> split <;> omega
 have hk0 : 0 ≤ keepD D keep ∧ keepD D keep ≤ lenB D.l := by unfold keepD; omega
 have hlost : wqq (((lenB D.l : Nat) : Int) - keepD D keep) = (crashD D keep).2 := by unfold crashD; rw [wI]
 have hdl := h.rd.lt
 have hrl := h.rm.lt
 have hrd : m.r ≠ d := fun q => h.rd.ne_map h.rm q.symm
 refine ⟨_, rfl, m.ls, h2.rd.at 4 rfl, ?_⟩
 rw [hkp, hlost]
 refine ⟨fun n i c wr => ∃ (k : Nat) (E' : List Bl) (s : List Wr1), i = k ∧ k + n = m.W.length ∧ 0 ≤ c ∧ c ≤ lenB D.l ∧ MapIs GI wr (some m.r) (E'.map entV) ∧ (E'.map kb).Perm s ∧ (keysOf s).Nodup ∧ crashG c s (D.l.drop k) = crashG (keepD D keep) D.safe D.l ∧
  (∀ x ∈ E', BlOk wr x ∧ ∀ b, x.2.1.blk = some b → ∃ y ∈ m.E ++ m.W, y.2.1.blk = some b) ∧ Mod (fun i => i = m.r) w2 wr,
  ⟨m.W.length, 0, m.E, D.safe, rfl, by omega, hk0.1, hk0.2, h2.rm, h.sf, h.ok.nd, by rw [List.drop_zero], fun x hx => ⟨h2.bl x (ali25.2 (.inl hx)), fun b hb => ⟨x, ali25.2 (.inl hx), hb⟩⟩, Mod.refl _ _⟩, ?_⟩
 rintro n6 us i c w10 ⟨k, E', s, rfl, hk, hc0, hcl, hm, hp, hnd, hcr, hbl, mr⟩
 have z2 := x02.size
 have z10 := mr.size
 have off : ∀ {u v : World} {g : Nat} {cs : LV} {τ : TypeId}, MapIs GI u (some m.r) (E'.map entV) → Row u g cs τ → ¬ g = m.r := fun hm' hr' q => hr'.ne_map hm' q
 have rd10 := mr.row h2.rd (fun q => hrd q.symm)
 have hlsr : ∀ b, m.ls.blk = some b → ¬ b = m.r := fun b hb q => by
  obtain ⟨cs', hr2⟩ := own_row h.ol dcc hb
  exact hr2.ne_map h.rm q
 have ol10 : OwnK 0 tW 2 w10 m.ls (m.W.map wV) := mr.ownK h2.ol hlsr
 have fin : ∀ {u : World} {E1 : List Bl} {s1 : List Wr1} , Mod (fun i => i = m.r) w2 u → MapIs GI u (some m.r) (E1.map entV) → (E1.map kb).Perm s1 → s1 = crashG (keepD D keep) D.safe D.l → (∀ x ∈ E1, BlOk u x ∧ ∀ b, x.2.1.blk = some b → ∃ y ∈ m.E ++ m.W, y.2.1.blk = some b) →
   Wr u (padd (pzq d) 4) 1 ∧ ∀ u1, u1 = setP u (padd (pzq d) 4) [.slice none 0 0] → Wr u1 (padd (pzq d) 1) 1 ∧ ∀ u2, u2 = setP u1 (padd (pzq d) 1) [vzz] → Wr u2 (padd (pzq d) 2) 1 ∧ ∀ u3, u3 = setP u2 (padd (pzq d) 2) [vzz] →
    Ending.returned (.int .i64 (crashD D keep).2) = Value.int .i64 (crashD D keep).2 ∧ ∃ m', DO u3 d m' (crashD D keep).1 ∧ Mod (fun i => i = d ∨ i = m.r) w u3 ∧ (∀ i, dF d m' i → dF d m i ∨ w.heap.size ≤ i) := by
  intro u E1 s1 mu hmu hpu hsu hbu
  have rdu := mu.row h2.rd (fun q => hrd q.symm)
  obtain ⟨p1, p2⟩ := rdu.put1 (j := 4) (v := .slice none 0 0) smm rfl
  refine ⟨p1, fun u1 eu1 => ?_⟩
  obtain ⟨q1, q2⟩ := p2 u1 eu1
  obtain ⟨p3, p4⟩ := q1.put1 (j := 1) (v := .int .i64 0) (show 1 < 5 by decide) rfl
  refine ⟨p3, fun u2 eu2 => ?_⟩
  obtain ⟨q3, q4⟩ := p4 u2 eu2
  obtain ⟨p5, p6⟩ := q3.put1 (j := 2) (v := .int .i64 0) (show 2 < 5 by decide) rfl
  refine ⟨p5, fun u3 eu3 => ⟨rfl, ⟨m.r, ⟨none, 0, 0⟩, E1, []⟩, ?_, ?_, ?_⟩⟩
  ·obtain ⟨q5, q6⟩ := p6 u3 eu3
   have mm := (q2.trans q4).trans q6
   refine ⟨q5, mm.map hmu hrd, OwnK.nil, (by rw [hsu] at hpu; exact hpu), rfl, fun x hx => ?_, hok⟩
   have hx' : x ∈ E1 := by simpa using hx
   have hbx := (hbu x hx').1
   refine ⟨mm.ownK hbx.o fun g hg => ?_, hbx.b⟩
   obtain ⟨cs', hr2⟩ := own_row hbx.o dcc hg
   exact hr2.ne rdu dcc
  ·obtain ⟨q5, q6⟩ := p6 u3 eu3
   exact ((Mod.of_ext x02).trans (mu.mono fun i _ hi => .inr hi)).trans (((q2.trans q4).trans q6).mono fun i _ hi => .inl hi)
  ·rintro i (q | q | q | ⟨x, hx, q⟩)
   ·exact .inl (.inl q)
   ·exact .inl (.inr (.inl q))
   ·cases q
   ·have hx' : x ∈ E1 := by simpa using hx
    obtain ⟨y, hy, qy⟩ := (hbu x hx').2 i q
    exact .inl (.inr (.inr (.inr ⟨y, hy, qy⟩)))
 apply Br.mk <;> intro hc
 ·replace hc := q0T hc
  obtain ⟨x, hx⟩ := get_lt (l := m.W) (i := k) omm
  have hr := ol10.rd (show 0 < 2 by decide)
  have hm2 : (m.W.map wV)[k]? = some (wV x) := by rw [ali02, hx]; rfl
  have wk := wkS (j := k)
  have hl : D.l[k]? = some (kb x) := by rw [← h.sl, ali02, hx]; rfl
  have hxm : x ∈ m.E ++ m.W := ali25.2 (.inr (ali00 hx))
  have hbx := h2.bl x hxm
  have hbx10 : OwY 0 w10 x.2.1 x.2.2 := mr.ownK hbx.o fun b hb q => by
   obtain ⟨cs', hr2⟩ := own_row hbx.o dcc hb
   exact hr2.ne_map h2.rm q
  have hxn := RdY.n (OwY.rdy hbx.o)
  have hxc := OwnK.le hbx.o
  have hcs := crash_step (n := c) (s := s) hl
  have e2 : (kb x).2 = x.2.2 := rfl
  have e3 : (kb x).1 = x.1 := rfl
  rw [e2, e3] at hcs
  refine ⟨RdK.inB hr dcc omm hc, x.1, x.2.1, RdK.loadL hr hm2, fun w14 e14 w15 e15 => ?_⟩
  have x15 : Ext w10 w15.drew := ((eaa e14).of_setRow e15 (ali34 _)).drew
  have hm15 := hm.same (x15.heap hm.lt)
  have hbl15 : ∀ y ∈ E', BlOk w15.drew y ∧ ∀ b, y.2.1.blk = some b → ∃ z ∈ m.E ++ m.W, z.2.1.blk = some b := fun y hy => ⟨⟨(hbl y hy).1.o.ext x15, (hbl y hy).1.b⟩, (hbl y hy).2⟩
  have mr15 := mr.trans (Mod.of_ext x15 : Mod (fun i => i = m.r) w10 w15.drew)
  obtain ⟨q, hq, hqn⟩ : ∃ q : Nat, (if c < ((x.2.1.n : Nat) : Int) then c else ((x.2.1.n : Nat) : Int)) = q ∧ q = min c.toNat x.2.2.length := by
   refine ⟨min c.toNat x.2.2.length, ?_, rfl⟩
   split <;> omega
  rw [hq]
  refine ⟨_, (rd10.ext x15).at 3 rfl, by omega, by omega, GI, E'.map entV, intKey, rfl, hm15, ⟨_, rfl⟩, fun w19 hrec hm19 => ?_⟩
  have ecut : (Value.slice (slBase x.2.1.a 0 x.2.1.c 1) (((q : Nat) : Int).toNat - 0) (x.2.1.c - 0)) = .slice (slBase x.2.1.a 0 x.2.1.c 1) q x.2.1.c := rfl
  rw [ecut] at hm19
  have hE : insL (E'.map entV) (.int .i64 x.1) (.slice (slBase x.2.1.a 0 x.2.1.c 1) q x.2.1.c) = (insE (fun y : Bl => y.1) E' (x.1, ⟨slBase x.2.1.a 0 x.2.1.c 1, q, x.2.1.c⟩, x.2.2.take q)).map entV := insL_ent E' (x.1, ⟨slBase x.2.1.a 0 x.2.1.c 1, q, x.2.1.c⟩, x.2.2.take q)
  rw [hE] at hm19
  have m19 : Mod (fun i => i = m.r) w15.drew w19 := Mod.of_rec hrec
  have mr19 := mr15.trans m19
  have hp19 : ((insE (fun y : Bl => y.1) E' (x.1, ⟨slBase x.2.1.a 0 x.2.1.c 1, q, x.2.1.c⟩, x.2.2.take q)).map kb).Perm (lay s (x.1, x.2.2.take q)) :=
   insE_lay (f := fun y : Bl => y.1) (g := fun y : Bl => y.2.2) (x.1, ⟨slBase x.2.1.a 0 x.2.1.c 1, q, x.2.1.c⟩, x.2.2.take q) hp hnd
  have hblk : (Sl.mk (slBase x.2.1.a 0 x.2.1.c 1) q x.2.1.c).blk = x.2.1.blk := by rw [slBase_zero]; rfl
  have hbl19 : ∀ y ∈ insE (fun y : Bl => y.1) E' (x.1, ⟨slBase x.2.1.a 0 x.2.1.c 1, q, x.2.1.c⟩, x.2.2.take q), BlOk w19 y ∧ ∀ b, y.2.1.blk = some b → ∃ z ∈ m.E ++ m.W, z.2.1.blk = some b := fun y hy => by
   have hy15 : BlOk w15.drew y ∧ ∀ b, y.2.1.blk = some b → ∃ z ∈ m.E ++ m.W, z.2.1.blk = some b := by
    rcases insE_mem hy with rfl | hy
    ·refine ⟨⟨?_, fun c hc => hbx.b c (alj44 hc)⟩, fun b hb => ⟨x, hxm, by rw [← hblk]; exact hb⟩⟩
     have := OwnK.cutc (hbx10.ext x15) dcc (m := q) (by rw [ali01]; omega) x.2.1.c
     rw [← List.map_take] at this
     exact this
    ·exact hbl15 y hy
   refine ⟨⟨m19.ownK hy15.1.o fun b hb e => ?_, hy15.1.b⟩, hy15.2⟩
   obtain ⟨cs', hr2⟩ := own_row hy15.1.o dcc hb
   exact hr2.ne_map hm15 e
  have pb : ∀ j, pblk (padd (pzq d) j) ≠ some w10.heap.size := fun j q => by
   rw [pblk_padd] at q
   have : d = w10.heap.size := by simpa [pblk] using q
   omega
  apply Br.mk <;> intro hb
  ·replace hb := q0T hb
   rw [if_neg omm] at hcs
   have hqc : q = c.toNat := by omega
   obtain ⟨f1, f2⟩ := fin mr19 hm19 hp19 (by rw [hqc, ← hcr, hcs]) hbl19
   refine ⟨⟨rfl, f1⟩, pb _, fun w20 e20 => ?_⟩
   obtain ⟨f3, f4⟩ := f2 w20 e20
   refine ⟨⟨rfl, f3⟩, pb _, fun w21 e21 => ?_⟩
   obtain ⟨f5, f6⟩ := f4 w21 e21
   exact ⟨⟨rfl, f5⟩, pb _, fun w22 e22 => f6 w22 e22⟩
  ·replace hb := q0F hb
   rw [if_pos omm] at hcs
   have hqx : x.2.2.take q = x.2.2 := ali11 omm
   have hqx2 : q = x.2.2.length := by omega
   rw [hqx] at hp19 hbl19 hm19
   refine ⟨n6 - 1, by omega, k + 1, _, lay s (kb x), wk, by omega, ?_, ?_, hm19, hp19, lay_nodup hnd, ?_, hbl19, mr19⟩
   ·rw [wI]; omega
   ·rw [wI]; omega
   ·rw [wI, hqx2, ← hcr, hcs]
 ·replace hc := q0F hc
  have hk2 : k = m.W.length := by omega
  have hcr2 : s = crashG (keepD D keep) D.safe D.l := by
   rw [← hcr, alj12 omm]; rfl
  obtain ⟨f1, f2⟩ := fin mr hm hp hcr2 hbl
  refine ⟨⟨rfl, f1⟩, fun w20 e20 => ?_⟩
  obtain ⟨f3, f4⟩ := f2 w20 e20
  refine ⟨⟨rfl, f3⟩, fun w21 e21 => ?_⟩
  obtain ⟨f5, f6⟩ := f4 w21 e21
  exact ⟨⟨rfl, f5⟩, fun w22 e22 => f6 w22 e22⟩
end Go.Proofs.YtjcnjlaelhdjeaaGreatDoor
namespace Go.Proofs.YtjcnjlaelhdjeaaGreatDoor
open Go Go.Vc Go.RowKit Go.Proofs Go.Chk Go.Runs Go.Code
abbrev tRec : TypeId := 276
structure SO (w : World) (st d : Nat) (m : Dm) (D : Dk) : Prop where
 rs : Row w st [d] tStore
 dk : DO w d m D
def sF (st d : Nat) (m : Dm) (i : Nat) : Prop := i = st ∨ dF d m i
theorem SO.lt {w : World} {st d : Nat} {m : Dm} {D : Dk} (h : SO w st d m D) {i : Nat} (hi : sF st d m i) : i < w := by
 rcases hi with rfl | hi
 ·exact h.rs.lt
 ·exact h.dk.lt hi
theorem SO.same {w w' : World} {st d : Nat} {m : Dm} {D : Dk} (h : SO w st d m D) (hs : ∀ i, sF st d m i → w'.heap[i]? = w.heap[i]?) : SO w' st d m D := ⟨h.rs.same (hs _ (.inl rfl)), h.dk.same fun i hi => hs i (.inr hi)⟩
theorem SO.ext {w w' : World} {st d : Nat} {m : Dm} {D : Dk} (h : SO w st d m D) (x : Ext w w') : SO w' st d m D := h.same fun i hi => x.heap (h.lt hi)
theorem SO.ptr {w : World} {st d : Nat} {m : Dm} {D : Dk} (h : SO w st d m D) : ld w (padd (padd (pzq st) 0) 0) = some (.pointer (pzq d)) := by
 rw [padd_row, padd_row, h.rs.ld]; rfl
theorem dNew_spec (room : Int) (w : World) : Cal 297 #[room] w fun e w' => ∃ d m, e = Value.pointer (pzq d) ∧ DO w' d m ⟨min (max room 0) 1048576, 0, 0, [], []⟩ ∧ Ext w w' ∧ ∀ i, dF d m i → w.heap.size ≤ i := by
 apply disk_New.vc
 intro w0 e0 w1 e1
 have z0 := hs1 e0
 have x1 := eaa e1
 have hm : MapIs GI w0 (some w.heap.size) [] := by rw [e0]; exact MapIs.new
 have er : (if 1048576 < (if 0 > room then 0 else room) then 1048576 else (if 0 > room then 0 else room)) = min (max room 0) 1048576 := by split <;> split <;> omega
 rw [er] at e1
 refine ⟨w0.heap.size, ⟨w.heap.size, ⟨none, 0, 0⟩, [], []⟩, rfl, ⟨by rw [e1]; exact Row.new w0 [_, _, _, _, _] _, hm.same (x1.heap hm.lt), OwnK.nil, .refl _, rfl, (fun x hx => by cases hx), ⟨List.nodup_nil, fun k => by simp [lenB]; omega, by simp, by simp, by simp only; omega⟩⟩, (eaa e0).tr x1, fun i hi => ?_⟩
 rcases hi with q | q | q | ⟨x, hx, -⟩
 ·omega
 ·rw [q]; exact ali34 _
 ·cases q
 ·cases hx
theorem sNew_spec (room : Int) (w : World) : Cal 242 #[room] w fun e w' => ∃ st d m, e = Value.pointer (pzq st) ∧ SO w' st d m ⟨min (max room 0) 1048576, 0, 0, [], []⟩ ∧ Ext w w' ∧ ∀ i, sF st d m i → w.heap.size ≤ i := by
 apply store_New.vc
 refine (dNew_spec room w).mono ?_
 rintro e w0 ⟨d, m, rfl, hd, x0, hf⟩
 refine ⟨_, rfl, fun w2 e2 => ?_⟩
 have x2 := eaa e2
 have z := x0.size
 refine ⟨_, d, m, rfl, ⟨by rw [e2]; exact Row.new w0 [_] _, hd.ext x2⟩, x0.tr x2, fun i hi => ?_⟩
 rcases hi with q | q
 ·omega
 ·exact hf i q
set_option maxRecDepth 100000 in
theorem sOf_spec {w : World} {st d : Nat} {m : Dm} {D : Dk} (h : SO w st d m D) (hW : D.l.length ≤ 1000000000) {id : Int} (hid : 0 ≤ id ∧ id ≤ 1099511627776) :
  Cal 231 #[st, id] w fun e w' => ∃ s : Sl, e = Value.agg #[.int .i64 (ofS D id).1, .int .i64 (ofS D id).2.1, .slice s.a s.n s.c] ∧ RdY w' s (ofS D id).2.2 ∧ Bys (ofS D id).2.2 ∧ (ofS D id).2.2.length ≤ 1048576 ∧ s.n ≤ s.c ∧ (∀ g, s.blk = some g → w.heap.size ≤ g) ∧ Ext w w' := by
 apply store_Store_ofb.vc
 intro w0 e0 w1 e1 w2 e2
 have z0 := hs1 e0
 have z1 : w1.heap.size = w.heap.size + 2 := by rw [e1]; simp [z0]
 have z2 : w2.heap.size = w.heap.size + 2 := by rw [e2, setRow_size, z1]
 have x2 : Ext w w2 := ((eaa e0).of_alloc e1).of_setRow e2 omm
 have k0 : wqq (2 * id) = 2 * id := wI
 have k1 : wqq (2 * id + 1) = 2 * id + 1 := wI
 rw [k0, k1]
 obtain ⟨best, hbest⟩ : ∃ best : Nat → Rc, best = fun k => if k = 0 then (2 * id + 1, 0, []) else if k = 1 then stepS (2 * id + 1, 0, []) (2 * id) (rdS (getD D (2 * id))) else ofS D id := ⟨_, rfl⟩
 have b0 : best 0 = (2 * id + 1, 0, []) := by rw [hbest]; rfl
 have b1 : best 1 = stepS (best 0) (2 * id) (rdS (getD D (2 * id))) := by rw [b0, hbest]; rfl
 have b2 : best 2 = stepS (best 1) (2 * id + 1) (rdS (getD D (2 * id + 1))) := by rw [b1, b0, hbest]; rfl
 have b3 : best 2 = ofS D id := by rw [hbest]; rfl
 refine ⟨fun n i sl v s wr => ∃ k : Nat, i = k ∧ k + n = 2 ∧ sl = (best k).1 ∧ v = (best k).2.1 ∧ RdY wr s (best k).2.2 ∧ Bys (best k).2.2 ∧ (best k).2.2.length ≤ 1048576 ∧ s.n ≤ s.c ∧ (∀ g, s.blk = some g → w2.heap.size ≤ g) ∧ Ext w wr ∧ w2.heap.size ≤ wr,
  ⟨2, rfl, 0, rfl, rfl, by rw [b0], by rw [b0], by rw [b0]; exact OwY.rdy (OwnK.nil (B := 0)), by rw [b0]; exact (fun c hc => by cases hc), by rw [b0]; simp, ali34 _, (fun g hg => by cases hg), x2, ali34 _⟩, ?_⟩
 rintro n4 us i sl v s w10 ⟨k, rfl, hk, rfl, rfl, hs, hsb, hsl, hsc, hsf, x10, z10⟩
 apply Br.mk <;> intro hc
 ·replace hc := q0T hc
  have hwk := wkS (j := k)
  obtain ⟨slot, hslot, hnext⟩ : ∃ slot, ([.int .i64 (2 * id), .int .i64 (2 * id + 1)] : LV)[((k : Nat) : Int).toNat * 1]? = some (.int .i64 slot) ∧ best (k + 1) = stepS (best k) slot (rdS (getD D slot)) := by
   rcases k with _ | _ | k
   ·exact ⟨_, rfl, b1⟩
   ·exact ⟨_, rfl, b2⟩
   ·omega
  have h10 := h.ext x10
  refine ⟨⟨by omega, by omega⟩, slot, hslot, _, h10.ptr, (dGet_spec h10.dk hW slot).mono ?_⟩
  rintro e w14 ⟨t, tb, rfl, ot, hby, hle, x14⟩
  have z14 := x14.size
  refine ⟨t, tb, rfl, x14.heap omm, x14.heap omm, (sRead_spec t (getD D slot) w14 (OwY.rdy ot) hby (OwnK.le ot) omm).mono ?_⟩
  rintro e w17 ⟨u, rfl, hu, huc, hub, x17⟩
  have z17 := x17.size
  have x1017 := x14.tr x17
  have hui := rdS_in hby
  have hul := rdS_le (getD D slot)
  have keep : stepS (best k) slot (rdS (getD D slot)) = best k → ∃ n11, n11 < n4 ∧ EqL [vzz, vzz, .slice none 0 0] ∧ ∃ k' : Nat, wqq ((k : Int) + 1) = (k' : Int) ∧ k' + n11 = 2 ∧ (best k).1 = (best k').1 ∧ (best k).2.1 = (best k').2.1 ∧ RdY w17 s (best k').2.2 ∧ Bys (best k').2.2 ∧ (best k').2.2.length ≤ 1048576 ∧ s.n ≤ s.c ∧ (∀ g, s.blk = some g → w2.heap.size ≤ g) ∧ Ext w w17 ∧ w2.heap.size ≤ w17 := fun q => by
   rw [q] at hnext
   exact ⟨n4 - 1, by omega, rfl, k + 1, hwk, by omega, by rw [hnext], by rw [hnext], by rw [hnext]; exact hs.ext x1017, by rw [hnext]; exact hsb, by rw [hnext]; exact hsl, hsc, hsf, x10.tr x1017, by omega⟩
  refine ⟨_, u, _, rfl, x17.heap omm, x17.heap omm, Br.mk (fun hb => Br.mk (fun hb2 => ?_) (fun hb2 => ?_)) (fun hb => ?_)⟩
  ·have q1 := qdq hb
   have q2 := qdq hb2
   have e : stepS (best k) slot (rdS (getD D slot)) = (slot, (rdS (getD D slot)).1, (rdS (getD D slot)).2.1) := by unfold stepS; rw [if_pos ⟨q1, q2⟩]
   rw [e] at hnext
   intro w21 e21
   have x21 : Ext w w21 := (x10.tr x1017).of_setRow e21 omm
   have hu21 : RdY w21 u (rdS (getD D slot)).2.1 := hu.same fun g hg => by
    rw [e21]; exact setRow_other _ _ _ _ (by have := hub g hg; omega)
   have z21 : w21.heap.size = w17.heap.size := by rw [e21, setRow_size]
   exact ⟨n4 - 1, by omega, rfl, k + 1, hwk, by omega, by rw [hnext], by rw [hnext], by rw [hnext]; exact hu21, by rw [hnext]; exact hui, by rw [hnext]; simp only; omega, huc, (fun g hg => by have := hub g hg; omega), x21, by omega⟩
  ·have q2 := qdq hb2
   exact keep (by unfold stepS; rw [if_neg fun q => q2 q.2])
  ·have q1 := qdq hb
   exact keep (by unfold stepS; rw [if_neg fun q => q1 q.1])
 ·replace hc := q0F hc
  have hk2 : k = 2 := by omega
  subst hk2
  rw [b3] at hs hsb hsl ⊢
  intro w22 e22
  refine ⟨s, rfl, hs.same fun g hg => ?_, hsb, hsl, hsc, fun g hg => by have := hsf g hg; omega, x10.of_setRow e22 (ali34 _)⟩
  rw [e22]; exact setRow_other _ _ _ _ (by have := hsf g hg; omega)
theorem mayS_spec (id : Int) (w : World) : Cal 230 #[id] w fun e w' => e = Value.bool (mayS id) ∧ w' = w := by
 apply store_may.vc
 unfold mayS
 apply Br.mk <;> intro h
 ·simp only [ge_iff_le, ali27] at h
  rw [decide_eq_true h]; exact ⟨rfl, rfl⟩
 ·simp only [ge_iff_le, ali28] at h
  rw [decide_eq_false h]; exact ⟨rfl, rfl⟩
theorem mayS_iff {id : Int} : mayS id = true ↔ 0 ≤ id ∧ id ≤ 1099511627776 := by unfold mayS; simp
theorem stLoad_spec {w : World} {st d : Nat} {m : Dm} {D : Dk} (h : SO w st d m D) (hW : D.l.length ≤ 1000000000) (id : Int) :
  Cal 161 #[st, id] w fun e w' => ∃ s : Sl, e = Value.tuple #[s, .int .i64 (ldS D id).2.1, .bool (ldS D id).2.2] ∧ RdY w' s (ldS D id).1 ∧ Bys (ldS D id).1 ∧ (ldS D id).1.length ≤ 1048576 ∧ s.n ≤ s.c ∧ (∀ g, s.blk = some g → w.heap.size ≤ g) ∧ Ext w w' := by
 apply store_Store_Load.vc
 refine (mayS_spec id w).mono ?_
 rintro e w0 ⟨rfl, rfl⟩
 refine ⟨_, rfl, Br.mk (fun hb => ?_) (fun hb => ?_)⟩
 ·have q : ¬ mayS id = true := by simpa using hb
  have e : ldS D id = ([], 0, false) := by unfold ldS; rw [if_neg q]
  rw [e]
  exact ⟨⟨none, 0, 0⟩, rfl, OwY.rdy (OwnK.nil (B := 0)), (fun c hc => by cases hc), by simp, ali34 _, (fun g hg => by cases hg), Ext.rfl' _⟩
 ·have q : mayS id = true := by simpa using hb
  have e : ldS D id = ((ofS D id).2.2, (ofS D id).2.1, decide ((ofS D id).2.1 > 0)) := by unfold ldS; rw [if_pos q]
  rw [e]
  refine (sOf_spec h hW (mayS_iff.1 q)).mono ?_
  rintro e w2 ⟨s, rfl, hs, hsb, hsl, hsc, hsf, x2⟩
  refine ⟨_, _, s, rfl, fun w6 e6 w7 e7 => ?_⟩
  have x7 : Ext w2 w7.drew := ((eaa e6).of_setRow e7 (ali34 _)).drew
  exact ⟨s, rfl, hs.ext x7, hsb, hsl, hsc, hsf, x2.tr x7⟩
def SRes (w : World) (st d : Nat) (m : Dm) (D : Dk) (w' : World) : Prop := ∃ m', SO w' st d m' D ∧ Mod (fun i => i = d ∨ m.ls.blk = some i) w w' ∧ (∀ i, dF d m' i → dF d m i ∨ w.heap.size ≤ i) ∧ ∀ i, m'.ls.blk = some i → m.ls.blk = some i ∨ w.heap.size ≤ i
theorem SO.off {w : World} {st d : Nat} {m : Dm} {D : Dk} (h : SO w st d m D) : ¬ (st = d ∨ m.ls.blk = some st) := by
 rintro (q | q)
 ·exact h.rs.ne h.dk.rd dcc q
 ·obtain ⟨cs', hr2⟩ := own_row h.dk.ol dcc q
  exact h.rs.ne hr2 dcc rfl
theorem SO.res {w w' : World} {st d : Nat} {m : Dm} {D D' : Dk} (h : SO w st d m D) (hr : DRes w d m D' w') : SRes w st d m D' w' := by
 obtain ⟨m', h1, h2, h3, h4⟩ := hr
 exact ⟨m', ⟨h2.row h.rs h.off, h1⟩, h2, h3, h4⟩
theorem SRes.of_ext {w0 w w' : World} {st d : Nat} {m : Dm} {D' : Dk} (x : Ext w0 w) (hr : SRes w st d m D' w') : SRes w0 st d m D' w' := by
 obtain ⟨m', h1, h2, h3, h4⟩ := hr
 have z := x.size
 exact ⟨m', h1, (Mod.of_ext x).trans h2, fun i hi => (h3 i hi).imp id fun q => by omega, fun i hi => (h4 i hi).imp id fun q => by omega⟩
theorem SRes.trans {w w1 w2 : World} {st d : Nat} {m m1 : Dm} {D1 D2 : Dk} (h1 : SO w1 st d m1 D1 ∧ Mod (fun i => i = d ∨ m.ls.blk = some i) w w1 ∧ (∀ i, dF d m1 i → dF d m i ∨ w.heap.size ≤ i) ∧ ∀ i, m1.ls.blk = some i → m.ls.blk = some i ∨ w.heap.size ≤ i) (h2 : SRes w1 st d m1 D2 w2) : SRes w st d m D2 w2 := by
 obtain ⟨a1, a2, a3, a4⟩ := h1
 obtain ⟨m2, b1, b2, b3, b4⟩ := h2
 have z := a2.size
 refine ⟨m2, b1, a2.tr b2 fun i hi => ?_, fun i hi => ?_, fun i hi => ?_⟩
 ·rcases hi with q | q
  ·exact .inl (.inl q)
  ·exact (a4 i q).imp .inr id
 ·rcases b3 i hi with q | q
  ·exact a3 i q
  ·exact .inr omm
 ·rcases b4 i hi with q | q
  ·exact a4 i q
  ·exact .inr omm
set_option maxRecDepth 100000 in
theorem stSave_spec {w : World} {st d : Nat} {m : Dm} {D : Dk} (h : SO w st d m D) (hW : D.l.length ≤ 1000000) (id : Int) (s : Sl) (b : List Int) (hs : RdY w s b) (hb : Bys b) (hn : b.length ≤ 1099511627776) :
  Cal 235 #[st, id, s] w fun e w' => e = Value.int .i64 (svS D id b).2 ∧ SRes w st d m (svS D id b).1 w' := by
 apply (store_Store_Save.vc (a2 := s))
 have same : ∀ {w' : World}, Ext w w' → SRes w st d m D w' := fun x => ⟨m, h.ext x, Mod.of_ext x, fun i hi => .inl hi, fun i hi => .inl hi⟩
 refine (mayS_spec id w).mono ?_
 rintro e w0 ⟨rfl, rfl⟩
 refine ⟨_, rfl, Br.mk (fun hb1 => ?_) (fun hb1 => ?_)⟩
 ·have q : ¬ mayS id = true := by simpa using hb1
  have e : svS D id b = (D, 1) := by unfold svS; rw [if_neg q]
  rw [e]
  exact ⟨rfl, same (Ext.rfl' _)⟩
 ·have q : mayS id = true := by simpa using hb1
  have hid := mayS_iff.1 q
  refine (sOf_spec h omm hid).mono ?_
  rintro e w2 ⟨s5, rfl, -, -, -, -, -, x2⟩
  refine ⟨_, _, s5, rfl, fun w6 e6 w7 e7 => ?_⟩
  have r7 : Row w7 w2 [.int .i64 (ofS D id).1, .int .i64 (ofS D id).2.1, s5] tRec := by rw [e7]; exact Row.set (by rw [e6]; exact Row.new w2 [_, _, _] _) _
  have x27 : Ext w2 w7 := (eaa e6).of_setRow e7 (ali34 _)
  have x7 := x2.tr x27
  have hv := ofS_v D id
  have wv : wqq ((ofS D id).2.1 + 1) = (ofS D id).2.1 + 1 := wI
  rw [wv]
  have hsl := ofS_slot D id
  have hto : bXor .i64 (ofS D id).1 1 = 4 * id + 1 - (ofS D id).1 := by
   obtain ⟨t1, t2⟩ := bXor_one hid
   rcases hsl with q | q
   ·rw [q, t1]; omega
   ·rw [q, t2]; omega
  rw [hto]
  have hsv : svS D id b = if (wrS ((ofS D id).2.1 + 1) b).2 ≠ 0 then (D, (wrS ((ofS D id).2.1 + 1) b).2)
   else if (putD D (4 * id + 1 - (ofS D id).1) (wrS ((ofS D id).2.1 + 1) b).1).2 ≠ 0 then putD D (4 * id + 1 - (ofS D id).1) (wrS ((ofS D id).2.1 + 1) b).1
   else syncD (putD D (4 * id + 1 - (ofS D id).1) (wrS ((ofS D id).2.1 + 1) b).1).1 := by unfold svS; rw [if_pos q]
  rw [hsv]
  refine (sWrite_spec ((ofS D id).2.1 + 1) s b w7 (hs.ext x7) hb hn).mono ?_
  rintro e w8 ⟨s9, rfl, o9, x8⟩
  have hwb : Bys (wrS ((ofS D id).2.1 + 1) b).1 := wrS_in hb
  have hwn : (wrS ((ofS D id).2.1 + 1) b).1.length ≤ 1099511627776 := by
   unfold wrS
   split
   ·simp
   ·rename_i q3
    rw [sealB_len, recB_len]
    omega
  generalize wrS ((ofS D id).2.1 + 1) b = wr at *
  generalize 4 * id + 1 - (ofS D id).1 = slot at *
  have z8 := x8.size
  have z2 := x27.size
  have hlt7 := r7.lt
  refine ⟨s9, _, rfl, x8.heap hlt7, Br.mk (fun hb2 => ?_) (fun hb2 => ?_)⟩
  ·have q2 : wr.2 ≠ 0 := by simpa using hb2
   rw [if_pos q2]
   exact ⟨rfl, same (x7.tr x8)⟩
  ·have q2 : wr.2 = 0 := by simpa using hb2
   rw [if_neg (by rw [q2]; simp)]
   have x8d := (x7.tr x8).tr (Ext.dr w8)
   have h8 := h.ext x8d
   have hdl := h.dk.rd.lt
   have z7 := x7.size
   refine ⟨_, h8.ptr, (dPut_spec h8.dk omm slot s9 wr.1 (RdK.ext (OwY.rdy o9) (Ext.dr w8)) hwb hwn fun hg => by have := (o9.own.lt hg).1; omega).mono ?_⟩
   rintro e w12 ⟨rfl, hr12⟩
   have hr12' := h8.res hr12
   have hbk : ∀ {v : World}, Mod (fun i => i = d ∨ m.ls.blk = some i) w8.drew v → v.heap[w2.heap.size]? = w8.drew.heap[w2.heap.size]? := fun hm => hm.same _ (by show w2.heap.size < w8.heap.size; omega) (by
    have := x2.size
    rintro (q | q)
    ·omega
    ·have := (h.dk.ol.own.lt q).2; omega)
   obtain ⟨m1, g1, g2, g3, g4⟩ := hr12'
   have r12 : Row w12 w2 [.int .i64 (ofS D id).1, .int .i64 (ofS D id).2.1, s5] tRec := ((r7.ext x8).ext (Ext.dr w8)).same (hbk g2)
   refine ⟨_, rfl, hbk g2, r12.loadL (fun j hj => by simp at hj; subst hj; rfl), Br.mk (fun hb3 => ?_) (fun hb3 => ?_)⟩
   ·have q3 : (putD D slot wr.1).2 ≠ 0 := by simpa using hb3
    rw [if_pos q3]
    exact ⟨rfl, SRes.of_ext x8d ⟨m1, g1, g2, g3, g4⟩⟩
   ·have q3 : (putD D slot wr.1).2 = 0 := by simpa using hb3
    rw [if_neg (by rw [q3]; simp)]
    have hpl := put_l D slot wr.1
    refine ⟨_, g1.ptr, (dSync_spec g1.dk omm).mono ?_⟩
    rintro e w15 ⟨rfl, hr15⟩
    have hr15' := g1.res hr15
    have hres := SRes.trans ⟨g1, g2, g3, g4⟩ hr15'
    have z12 := g2.size
    obtain ⟨m2, f1, f2, f3, f4⟩ := hr15
    refine ⟨_, rfl, f2.same _ r12.lt ?_, rfl, SRes.of_ext x8d hres⟩
    rintro (q | q)
    ·have := x2.size; omega
    ·obtain ⟨cs', hr2⟩ := own_row g1.dk.ol dcc q
     exact r12.ne hr2 dcc rfl
end Go.Proofs.YtjcnjlaelhdjeaaGreatDoor
namespace Go.Proofs.YtjcnjlaelhdjeaaGreatDoor
open Go Go.Vc Go.RowKit Go.Proofs Go.Chk Go.Runs
structure It where
 x : Nat
 g : Nat
 s : Sl
 p : Po
 C : List Int
 dirty : Bool
 pins : Int
structure ItIs (w : World) (i : It) : Prop where
 r : Row w i.x [.pointer (pzq i.g), .bool i.dirty, i.pins] tItem
 k : KIs w i.g i.s i.p i.C
theorem ItIs.ext {w w' : World} {i : It} (h : ItIs w i) (x : Ext w w') : ItIs w' i := ⟨h.r.ext x, h.k.ext x⟩
theorem ItIs.keep {w w' : World} {i : It} (h : ItIs w i) {F : Nat → Prop} (hm : Mod F w w') (h1 : ¬ F i.x) (h2 : ¬ F i.g) (h3 : ∀ b, i.s.blk = some b → ¬ F b) : ItIs w' i := ⟨hm.row h.r h1, h.k.keep hm h2 h3⟩
abbrev ptrs (its : List It) : List (LV) := its.map fun i => [.pointer (pzq i.x)]
structure TO (w : World) (t st d : Nat) (r : Dm) (sl : Sl) (D : Dk) (seed limit : Int) (its : List It) : Prop where
 rt : Row w t [st, seed, limit, sl] tTable
 so : SO w st d r D
 ol : OwnK 0 tPI 1 w sl (ptrs its)
 it : ∀ i ∈ its, ItIs w i
 dx : (its.map (·.x)).Nodup
 dg : (its.map (·.g)).Nodup
 lim : 1 ≤ limit ∧ limit ≤ 16
 len : (its.length : Int) ≤ limit
def dM (m : Dm) (i : Nat) : Prop := i = m.r ∨ m.ls.blk = some i ∨ ∃ x ∈ m.E ++ m.W, x.2.1.blk = some i
def foot (t st d : Nat) (r : Dm) (sl : Sl) (its : List It) (i : Nat) : Prop := i = t ∨ i = st ∨ i = d ∨ dM r i ∨ sl.blk = some i ∨ ∃ y ∈ its, i = y.x ∨ i = y.g ∨ y.s.blk = some i
theorem TO.lt {w : World} {t st d : Nat} {r : Dm} {sl : Sl} {D : Dk} {seed limit : Int} {its : List It} (h : TO w t st d r sl D seed limit its) {i : Nat} (hi : foot t st d r sl its i) : i < w := by
 rcases hi with rfl | e | e | e | e | ⟨y, hy, e | e | e⟩
 ·exact h.rt.lt
 ·exact h.so.lt (.inl e)
 ·exact h.so.lt (.inr (.inl e))
 ·exact h.so.lt (.inr (.inr e))
 ·exact (h.ol.own.lt e).2
 ·exact e ▸ (h.it y hy).r.lt
 ·exact e ▸ (h.it y hy).k.row.lt
 ·exact ((h.it y hy).k.own.own.lt e).2
theorem TO.same {w w' : World} {t st d : Nat} {r : Dm} {sl : Sl} {D : Dk} {seed limit : Int} {its : List It} (h : TO w t st d r sl D seed limit its) (hs : ∀ i, foot t st d r sl its i → w'.heap[i]? = w.heap[i]?) : TO w' t st d r sl D seed limit its := by
 refine ⟨h.rt.same (hs _ (.inl rfl)), h.so.same fun i hi => hs i ?_, OwnK.keep h.ol fun b hb => hs b (.inr (.inr (.inr (.inr (.inl hb))))), fun y hy => ?_, h.dx, h.dg, h.lim, h.len⟩
 ·rcases hi with e | e | e
  ·exact .inr (.inl e)
  ·exact .inr (.inr (.inl e))
  ·exact .inr (.inr (.inr (.inl e)))
 ·have f : ∀ i, (i = y.x ∨ i = y.g ∨ y.s.blk = some i) → w'.heap[i]? = w.heap[i]? := fun i hi => hs i (.inr (.inr (.inr (.inr (.inr ⟨y, hy, hi⟩)))))
  have hi := h.it y hy
  exact ⟨hi.r.same (f _ (.inl rfl)), hi.k.row.same (f _ (.inr (.inl rfl))), OwnK.keep hi.k.own fun b hb => f b (.inr (.inr hb)), hi.k.len, hi.k.may⟩
theorem TO.ext {w w' : World} {t st d : Nat} {r : Dm} {sl : Sl} {D : Dk} {seed limit : Int} {its : List It} (h : TO w t st d r sl D seed limit its) (x : Ext w w') : TO w' t st d r sl D seed limit its := h.same fun i hi => x.heap (h.lt hi)
theorem TO.kind {w : World} {t st d : Nat} {r : Dm} {sl : Sl} {D : Dk} {seed limit : Int} {its : List It} (h : TO w t st d r sl D seed limit its) {i : Nat} (hi : foot t st d r sl its i) :
  MapIs GI w (some i) (r.E.map entV) ∨ ∃ cs τ, Row w i cs τ ∧ (τ = tTable ∨ τ = tStore ∨ τ = tDisk ∨ τ = tPI ∨ τ = tItem ∨ τ = tChunk ∨ τ = tRun ∨ τ = tW ∨ τ = tByte) := by
 rcases hi with e | e | e | e | e | ⟨y, hy, e | e | e⟩
 ·exact .inr ⟨_, _, e ▸ h.rt, .inl rfl⟩
 ·exact .inr ⟨_, _, e ▸ h.so.rs, .inr (.inl rfl)⟩
 ·exact .inr ⟨_, _, e ▸ h.so.dk.rd, .inr (.inr (.inl rfl))⟩
 ·rcases h.so.dk.kind (.inr e) with q | ⟨cs, τ, q1, q2⟩
  ·exact .inl q
  ·refine .inr ⟨cs, τ, q1, ?_⟩
   rcases q2 with rfl | rfl | rfl
   ·exact .inr (.inr (.inl rfl))
   ·exact .inr (.inr (.inr (.inr (.inr (.inr (.inr (.inl rfl)))))))
   ·exact .inr (.inr (.inr (.inr (.inr (.inr (.inr (.inr rfl)))))))
 ·obtain ⟨cs, hr⟩ := own_row h.ol dcc e
  exact .inr ⟨_, _, hr, .inr (.inr (.inr (.inl rfl)))⟩
 ·exact .inr ⟨_, _, e ▸ (h.it y hy).r, .inr (.inr (.inr (.inr (.inl rfl))))⟩
 ·exact .inr ⟨_, _, e ▸ (h.it y hy).k.row, .inr (.inr (.inr (.inr (.inr (.inl rfl)))))⟩
 ·obtain ⟨cs, hr⟩ := own_row (h.it y hy).k.own dcc e
  exact .inr ⟨_, _, hr, .inr (.inr (.inr (.inr (.inr (.inr (.inl rfl))))))⟩
theorem TO.no_row {w : World} {t st d : Nat} {r : Dm} {sl : Sl} {D : Dk} {seed limit : Int} {its : List It} (h : TO w t st d r sl D seed limit its) {j : Nat} {cs : LV} {τ : TypeId} (hr : Row w j cs τ) (hτ : τ ≠ tTable ∧ τ ≠ tStore ∧ τ ≠ tDisk ∧ τ ≠ tPI ∧ τ ≠ tItem ∧ τ ≠ tChunk ∧ τ ≠ tRun ∧ τ ≠ tW ∧ τ ≠ tByte) : ¬ foot t st d r sl its j := fun hf => by
 rcases h.kind hf with hm | ⟨cs', τ', hr', ht⟩
 ·exact hr.ne_map hm rfl
 ·obtain ⟨h1, h2, h3, h4, h5, h6, h7, h8, h9⟩ := hτ
  rcases ht with rfl | rfl | rfl | rfl | rfl | rfl | rfl | rfl | rfl
  ·exact hr.ne hr' h1 rfl
  ·exact hr.ne hr' h2 rfl
  ·exact hr.ne hr' h3 rfl
  ·exact hr.ne hr' h4 rfl
  ·exact hr.ne hr' h5 rfl
  ·exact hr.ne hr' h6 rfl
  ·exact hr.ne hr' h7 rfl
  ·exact hr.ne hr' h8 rfl
  ·exact hr.ne hr' h9 rfl
theorem TO.n {w : World} {t st d : Nat} {r : Dm} {sl : Sl} {D : Dk} {seed limit : Int} {its : List It} (h : TO w t st d r sl D seed limit its) : sl.n = its.length := by
 have := (h.ol.rd dcc).n
 rwa [ali01] at this
theorem TO.at {w : World} {t st d : Nat} {r : Dm} {sl : Sl} {D : Dk} {seed limit : Int} {its : List It} (h : TO w t st d r sl D seed limit its) {i : Nat} {y : It} (hi : its[i]? = some y) : InB sl.a (i : Int) sl.n ∧ ld w (padd sl.a (((i : Nat) : Int).toNat * 1)) = some (.pointer (pzq y.x)) := by
 have hlt := (ali03.1 hi).1
 have hrd := h.ol.rd (show 0 < 1 by decide)
 refine ⟨RdK.inB hrd dcc omm (by rw [h.n]; omega), ?_⟩
 have := hrd.rd i [.pointer (pzq y.x)] (by rw [ali02, hi]; rfl) 0 _ rfl
 exact this
def dk0 (room : Int) : Dk := ⟨min (max room 0) 1048576, 0, 0, [], []⟩
theorem tNew_spec (seed limit room : Int) (w : World) : Cal 176 #[seed, limit, room] w fun e w' => ∃ t st d r, e = Value.pointer (pzq t) ∧ TO w' t st d r ⟨none, 0, 0⟩ (dk0 room) seed (min (max limit 1) 16) [] ∧ Ext w w' ∧ ∀ i, foot t st d r ⟨none, 0, 0⟩ [] i → w.heap.size ≤ i := by
 apply table_New.vc
 refine (sNew_spec room w).mono ?_
 rintro e w0 ⟨st, d, m, rfl, hs, x0, hf⟩
 refine ⟨_, rfl, fun w2 e2 => ?_⟩
 have x2 := eaa e2
 have z0 := x0.size
 have hl : (if 16 < (if 1 > limit then 1 else limit) then 16 else (if 1 > limit then 1 else limit)) = min (max limit 1) 16 := by split <;> split <;> omega
 rw [hl] at e2
 refine ⟨_, st, d, m, rfl, ⟨by rw [e2]; exact Row.new w0 [_, _, _, _] _, hs.ext x2, OwnK.nil, by simp, by simp, by simp, by omega, by simp; omega⟩, x0.tr x2, fun i hi => ?_⟩
 rcases hi with rfl | e | e | e | e | ⟨y, hy, -⟩
 ·exact z0
 ·exact hf i (.inl e)
 ·exact hf i (.inr (.inl e))
 ·exact hf i (.inr (.inr e))
 ·cases e
 ·cases hy
theorem indexFunc_spec {α : Type} (s : Sl) (l : List α) (ad : α → Nat) (fv : Value) (q : α → Bool) (w : World) (hs : RdK w s 1 (l.map fun i => [.pointer (some ⟨ad i, 0, none⟩)])) (hb : l.length ≤ 1000)
  (hf : ∀ i ∈ l, ∀ w', Ext w w' → callV Tryz.prog fv [.pointer (some ⟨ad i, 0, none⟩)] w' fun e w'' => e = Value.bool (q i) ∧ Ext w' w'') :
  Cal 227 #[s, fv] w fun e w' => e = Value.int .i64 (firstI q l) ∧ Ext w w' := by
 apply slices_IndexFunc_item.vc
 have hn : s.n = l.length := by have := hs.n; rwa [ali01] at this
 refine ⟨fun n i wr => ∃ k : Nat, i = k ∧ k + n = l.length ∧ Ext w wr ∧ ∀ j, j < k → ∀ y, l[j]? = some y → q y = false, ⟨l.length, 0, rfl, by omega, Ext.rfl' _, fun j hj => by omega⟩, ?_⟩
 rintro n us i wr ⟨k, rfl, hk, xr, hno⟩
 have hwk := wkS (j := k)
 apply Br.mk <;> intro hc
 ·replace hc := q0T hc
  obtain ⟨y, hy⟩ := get_lt (l := l) (i := k) omm
  have hsr := RdK.ext hs xr
  have hld := hsr.rd k [.pointer (some ⟨ad y, 0, none⟩)] (by rw [ali02, hy]; rfl) 0 _ rfl
  refine ⟨RdK.inB hsr dcc omm omm, _, hld, callV_mono (hf y (ali00 hy) wr xr) ?_⟩
  rintro e w7 ⟨rfl, x7⟩
  refine ⟨_, rfl, Br.mk (fun h => ?_) (fun h => ?_)⟩
  ·exact ⟨by rw [firstI_at hy h hno], xr.tr x7⟩
  ·refine ⟨n - 1, by omega, k + 1, hwk, by omega, xr.tr x7, fun j hj z hz => ?_⟩
   by_cases e : j = k
   ·subst e; rw [hy] at hz; cases hz; exact h
   ·exact hno j omm z hz
 ·replace hc := q0F hc
  refine ⟨?_, xr⟩
  rw [firstI_none]
  intro y hy
  obtain ⟨j, hj⟩ := alj26 hy
  exact hno j (by have := (ali03.1 hj).1; omega) y hj
set_option maxRecDepth 100000 in
theorem find_spec {w : World} {t st d : Nat} {r : Dm} {sl : Sl} {D : Dk} {seed limit : Int} {its : List It} (h : TO w t st d r sl D seed limit its) (p : Po) :
  Cal 158 #[t, pv p] w fun e w' => e = Value.int .i64 (firstI (fun i => i.p == p) its) ∧ Ext w w' := by
 apply table_Table_find.vc
 intro w0 e0
 have x0 := eaa e0
 have hb : Row w0 w [p.1, p.2] tPo := Row.nw e0
 have h0 := h.ext x0
 have hlen := h.len
 have hlim := h.lim
 refine ⟨sl, h0.rt.at 3 rfl, (indexFunc_spec sl its (·.x) _ (fun i => i.p == p) w0 (h0.ol.rd dcc) omm ?_).mono ?_⟩
 ·intro y hy w' x'
  refine callV_of (by kernel_rfl) (by rfl) ?_
  apply table_Table_find_1.vc
  have hy' := ((h0.it y hy).ext x').ext (Ext.dr w')
  have hb' := (hb.ext x').ext (Ext.dr w')
  refine ⟨_, by rw [padd_row, hy'.r.ld]; rfl, nnS (nnS ⟨_, _, hy'.k.pos, _, _, hb'.loadL (fun j hj => by rw [ali37]), (Place_spec y.p w'.drew).mono ?_⟩)⟩
  rintro e w5 ⟨rfl, x5⟩
  refine ⟨_, _, rfl, (hb'.ext x5).loadL (fun j hj => by rw [ali37]), ?_, rfl, (Ext.dr w').tr x5⟩
  rw [padd_row]
  exact (hy'.ext x5).r.loadL (fun j hj => by simp at hj; subst hj; rfl)
 ·rintro e w2 ⟨rfl, x2⟩
  exact ⟨_, rfl, rfl, x0.tr x2⟩
end Go.Proofs.YtjcnjlaelhdjeaaGreatDoor
namespace Go.Proofs.YtjcnjlaelhdjeaaGreatDoor
open Go Go.Vc Go.RowKit Go.Proofs Go.Chk Go.Runs
theorem SO.kind {w : World} {st d : Nat} {m : Dm} {D : Dk} (h : SO w st d m D) {i : Nat} (hi : sF st d m i) : MapIs GI w (some i) (m.E.map entV) ∨ ∃ cs τ, Row w i cs τ ∧ (τ = tStore ∨ τ = tDisk ∨ τ = tW ∨ τ = tByte) := by
 rcases hi with e | hi
 ·exact .inr ⟨_, _, e ▸ h.rs, .inl rfl⟩
 ·rcases h.dk.kind hi with q | ⟨cs, τ, q1, q2⟩
  ·exact .inl q
  ·exact .inr ⟨cs, τ, q1, .inr q2⟩
theorem SO.keep {w w' : World} {st d : Nat} {m : Dm} {D : Dk} (h : SO w st d m D) {F : Nat → Prop} (hm : Mod F w w') (hr : ∀ {j : Nat} {cs : LV} {τ : TypeId}, Row w j cs τ → (τ = tStore ∨ τ = tDisk ∨ τ = tW ∨ τ = tByte) → ¬ F j) (hmp : ∀ {j : Nat} {kvs : List (Value × Value)}, MapIs GI w (some j) kvs → ¬ F j) : SO w' st d m D :=
 h.same fun i hi => hm.same i (h.lt hi) (by
  rcases h.kind hi with q | ⟨cs, τ, q1, q2⟩
  ·exact hmp q
  ·exact hr q1 q2)
abbrev slF (t : Nat) (sl : Sl) : Nat → Prop := fun j => j = t ∨ sl.blk = some j
theorem TO.off {w : World} {t st d : Nat} {r : Dm} {sl : Sl} {D : Dk} {seed limit : Int} {its : List It} (h : TO w t st d r sl D seed limit its) {j : Nat} {cs : LV} {τ : TypeId} (hr : Row w j cs τ) (h1 : τ ≠ tTable) (h2 : τ ≠ tPI) : ¬ slF t sl j := by
 rintro (e | e)
 ·exact hr.ne h.rt h1 e
 ·obtain ⟨cs', hr'⟩ := own_row h.ol dcc e
  exact hr.ne hr' h2 rfl
theorem TO.item {w w' : World} {t st d : Nat} {r : Dm} {sl : Sl} {D : Dk} {seed limit : Int} {its : List It} (h : TO w t st d r sl D seed limit its) (hm : Mod (slF t sl) w w') {y : It} (hy : ItIs w y) : ItIs w' y :=
 hy.keep hm (h.off hy.r dcc dcc) (h.off hy.k.row dcc dcc) (fun b hb => by
  obtain ⟨cs', hr'⟩ := own_row hy.k.own dcc hb
  exact h.off hr' dcc dcc)
theorem TO.turn {w w' : World} {t st d : Nat} {r : Dm} {sl sl' : Sl} {D : Dk} {seed limit : Int} {its its' : List It} (h : TO w t st d r sl D seed limit its) (hm : Mod (slF t sl) w w')
  (rt : Row w' t [st, seed, limit, sl'] tTable) (ol : OwnK 0 tPI 1 w' sl' (ptrs its')) (hit : ∀ y ∈ its', y ∈ its ∨ ItIs w y)
  (dx : (its'.map (·.x)).Nodup) (dg : (its'.map (·.g)).Nodup) (len : (its'.length : Int) ≤ limit) : TO w' t st d r sl' D seed limit its' := by
 refine ⟨rt, h.so.keep hm (fun hr hτ => ?_) (fun hmp => ?_), ol, fun y hy => h.item hm ?_, dx, dg, h.lim, len⟩
 ·rcases hτ with rfl | rfl | rfl | rfl <;> exact h.off hr dcc dcc
 ·rintro (e | e)
  ·exact h.rt.ne_map hmp e.symm
  ·obtain ⟨cs', hr'⟩ := own_row h.ol dcc e
   exact hr'.ne_map hmp rfl
 ·rcases hit y hy with h1 | h1
  ·exact h.it y h1
  ·exact h1
theorem foot_sub {w : World} {t st d : Nat} {r : Dm} {sl sl' : Sl} {its its' : List It} (hb : ∀ b, sl'.blk = some b → sl.blk = some b ∨ w.heap.size ≤ b) (hi : ∀ y ∈ its', y ∈ its ∨ (w.heap.size ≤ y.x ∧ w.heap.size ≤ y.g ∧ ∀ b, y.s.blk = some b → w.heap.size ≤ b)) :
  ∀ i, foot t st d r sl' its' i → foot t st d r sl its i ∨ w.heap.size ≤ i := by
 rintro i (e | e | e | e | e | ⟨y, hy, e⟩)
 ·exact .inl (.inl e)
 ·exact .inl (.inr (.inl e))
 ·exact .inl (.inr (.inr (.inl e)))
 ·exact .inl (.inr (.inr (.inr (.inl e))))
 ·rcases hb i e with h | h
  ·exact .inl (.inr (.inr (.inr (.inr (.inl h)))))
  ·exact .inr h
 ·rcases hi y hy with h | ⟨h1, h2, h3⟩
  ·exact .inl (.inr (.inr (.inr (.inr (.inr ⟨y, h, e⟩)))))
  ·rcases e with e | e | e
   ·exact .inr omm
   ·exact .inr omm
   ·exact .inr (h3 i e)
theorem slF_foot {t st d : Nat} {r : Dm} {sl : Sl} {its : List It} : ∀ i, slF t sl i → foot t st d r sl its i := by
 rintro i (e | e)
 ·exact .inl e
 ·exact .inr (.inr (.inr (.inr (.inl e))))
theorem one_p (a : Addr) : One [Value.pointer (some a)] := by intro v hv; simp at hv; subst hv; rfl
theorem TO.push {w : World} {t st d : Nat} {r : Dm} {sl : Sl} {D : Dk} {seed limit : Int} {its : List It} (h : TO w t st d r sl D seed limit its) (y : It) (hy : ItIs w y) (hx : y.x ∉ its.map (·.x)) (hg : y.g ∉ its.map (·.g)) (hl : (its.length : Int) + 1 ≤ limit) :
  AppPre 8 1 w sl 1 [.pointer (pzq y.x)] ∧ ∀ (s4 : Sl) (w5 : World), AppRes tPI 1 w sl 1 [.pointer (pzq y.x)] s4 w5 →
   Mod (fun j => sl.blk = some j) w w5 ∧ Wr w5 (padd (pzq t) 3) 1 ∧ ∀ w6, w6 = setP w5 (padd (pzq t) 3) [.slice s4.a s4.n s4.c] →
    TO w6 t st d r s4 D seed limit (its ++ [y]) ∧ Mod (slF t sl) w w6 ∧ ∀ b, s4.blk = some b → sl.blk = some b ∨ w.heap.size ≤ b := by
 have hn := h.n
 have hlim := h.lim
 obtain ⟨hp, hr⟩ := h.ol.append (bytes := 8) (news := [.pointer (pzq y.x)]) (alj66 _) rfl (one_p _) omm omm
 refine ⟨hp, fun s4 w5 hres => ?_⟩
 obtain ⟨ho, hn4, hbl, hk, hblk⟩ := hr s4 w5 hres
 have hm5 : Mod (fun j => sl.blk = some j) w w5 := Mod.of_app hbl hk
 have hnt : ¬ sl.blk = some t := fun e => by
  obtain ⟨cs', hr'⟩ := own_row h.ol dcc e
  exact hr'.ne h.rt dcc rfl
 have rt5 := hm5.row h.rt hnt
 obtain ⟨p1, p2⟩ := rt5.put1 (j := 3) (v := .slice s4.a s4.n s4.c) smm rfl
 refine ⟨hm5, p1, fun w6 e6 => ?_⟩
 obtain ⟨q1, q2⟩ := p2 w6 e6
 have hm6 : Mod (slF t sl) w w6 := (hm5.mono fun i _ hi => .inr hi).trans (q2.mono fun i _ hi => .inl hi)
 have h4t : ∀ b, s4.blk = some b → b ≠ t := fun b hb => by
  obtain ⟨cs', hr'⟩ := own_row ho dcc hb
  exact hr'.ne rt5 dcc
 refine ⟨h.turn hm6 q1 ?_ (fun z hz => ?_) ?_ ?_ (by simp; omega), hm6, fun b hb => ?_⟩
 ·have := q2.ownK ho h4t
  show OwnK 0 tPI 1 w6 s4 ((its ++ [y]).map _)
  rw [ali08]; exact this
 ·rcases ali25.1 hz with hz | hz
  ·exact .inl hz
  ·simp at hz; subst hz; exact .inr hy
 ·rw [ali08]
  refine alj47.2 ⟨h.dx, by simp, ?_⟩
  intro a ha b hb e
  simp at hb
  subst hb; subst e
  exact hx ha
 ·rw [ali08]
  refine alj47.2 ⟨h.dg, by simp, ?_⟩
  intro a ha b hb e
  simp at hb
  subst hb; subst e
  exact hg ha
 ·rcases hblk with e | e
  ·exact .inl (by rw [← e]; exact hb)
  ·rw [e] at hb; cases hb; exact .inr (ali34 _)
theorem out_spec {w : World} {t st d : Nat} {r : Dm} {sl : Sl} {D : Dk} {seed limit : Int} {its : List It} (h : TO w t st d r sl D seed limit its) {i : Nat} {y : It} (hi : its[i]? = some y) :
  Cal 165 #[t, .int .i64 (i : Nat)] w fun e w' => e = Value.pointer (pzq y.x) ∧ ∃ sl', TO w' t st d r sl' D seed limit (its.eraseIdx i) ∧ Mod (slF t sl) w w' ∧ ∀ b, sl'.blk = some b → sl.blk = some b ∨ w.heap.size ≤ b := by
 apply table_Table_out.vc
 have hn := h.n
 have hlim := h.lim
 have hlen := h.len
 have hil := (ali03.1 hi).1
 obtain ⟨a1, a2⟩ := h.at hi
 have hd := h.ext (Ext.dr w)
 have hle := OwnK.le h.ol
 have w1 := wkS (j := i)
 refine ⟨sl, h.rt.at 3 rfl, a1, _, a2, sl, hd.rt.at 3 rfl, by omega, by omega, by omega, by omega, sl, hd.rt.at 3 rfl, ?_⟩
 rw [w1]
 have hcut := hd.ol.cut dcc (m := i) (by rw [ali01]; omega)
 have hrest := RdK.rest (hd.ol.rd dcc) (l := i + 1) (m := sl.c) (n' := sl.n - (i + 1)) (c' := sl.c - (i + 1)) (by rw [ali01]; omega) (by rw [ali01]; omega)
 have hml : ((ptrs its).drop (i + 1)).length = sl.n - (i + 1) := by rw [alj30, ali01]; omega
 have hwd : ∀ q ∈ (ptrs its).drop (i + 1), q.length = 1 ∧ One q := fun q hq => by
  obtain ⟨z, _, rfl⟩ := ali06.1 (alj43 hq)
  exact ⟨rfl, one_p _⟩
 obtain ⟨hp, hres⟩ := hcut.appN (bytes := 8) (more := (ptrs its).drop (i + 1)) (alj66 _) (fun q hq => (hwd q hq).1) (fun q hq => (hwd q hq).2) (by rw [hml]; show (i + _) * 8 ≤ _; omega) (by rw [hml]; show i + _ ≤ _; omega)
 rw [hml] at hp hres
 refine ⟨by omega, by omega, ((ptrs its).drop (i + 1)).flatten, hrest.flat dcc, hp, fun s5 w6 hr => ?_⟩
 obtain ⟨ho, hn5, hbl, hk, hblk⟩ := hres s5 w6 hr
 have hsb : (Sl.mk (slBase sl.a 0 i 1) i i).blk = sl.blk := by rw [slBase_zero]; rfl
 rw [hsb] at hk hblk
 have hm6 : Mod (fun j => sl.blk = some j) w w6 := (Mod.of_ext (Ext.dr w)).trans (Mod.of_app hbl hk)
 have hnt : ¬ sl.blk = some t := fun e => by
  obtain ⟨cs', hr'⟩ := own_row h.ol dcc e
  exact hr'.ne h.rt dcc rfl
 have rt6 := hm6.row h.rt hnt
 obtain ⟨p1, p2⟩ := rt6.put1 (j := 3) (v := .slice s5.a s5.n s5.c) smm rfl
 have hld : LoadL w6 (padd (pzq t) 3) 0 [sl] := by
  show ld w6 (padd _ 0) = _
  rw [padd_zero]; exact rt6.at 3 rfl
 refine ⟨hld, hld, ⟨rfl, p1⟩, fun w7 e7 => ⟨rfl, s5, ?_⟩⟩
 obtain ⟨q1, q2⟩ := p2 w7 e7
 have hm7 : Mod (slF t sl) w w7 := (hm6.mono fun i _ hi => .inr hi).trans (q2.mono fun i _ hi => .inl hi)
 have h5t : ∀ b, s5.blk = some b → b ≠ t := fun b hb => by
  obtain ⟨cs', hr'⟩ := own_row ho dcc hb
  exact hr'.ne rt6 dcc
 have hsub : List.Sublist (its.eraseIdx i) its := alj15 ..
 refine ⟨h.turn hm7 q1 ?_ (fun z hz => .inl (hsub.subset hz)) (h.dx.sublist (hsub.map _)) (h.dg.sublist (hsub.map _)) ?_, hm7, fun b hb => ?_⟩
 ·have := q2.ownK ho h5t
  show OwnK 0 tPI 1 w7 s5 ((its.eraseIdx i).map _)
  rw [alj14, ali08, List.map_take, List.map_drop]; exact this
 ·have := hsub.length_le; omega
 ·rcases hblk with e | e
  ·exact .inl (by rw [← e]; exact hb)
  ·rw [e] at hb; cases hb; exact .inr (ali34 _)
theorem erase_not {α : Type} {f : α → Nat} {l : List α} {i : Nat} {y : α} (hd : (l.map f).Nodup) (hi : l[i]? = some y) : f y ∉ (l.eraseIdx i).map f := by
 rw [alj14, ali08]
 have e : l = l.take i ++ y :: l.drop (i + 1) := by
  have := alj52 i l
  rw [alj11 (ali03.1 hi).1] at this
  rw [← (ali03.1 hi).2]
  exact this.symm
 rw [e, ali08, ali17] at hd
 obtain ⟨h1, h2, h3⟩ := alj47.1 hd
 intro hm
 rcases ali25.1 hm with hm | hm
 ·exact h3 _ hm _ (.head _) rfl
 ·exact (alj48.1 h2).1 hm
theorem touch_spec {w : World} {t st d : Nat} {r : Dm} {sl : Sl} {D : Dk} {seed limit : Int} {its : List It} (h : TO w t st d r sl D seed limit its) {i : Nat} {y : It} (hi : its[i]? = some y) :
  Cal 159 #[t, .int .i64 (i : Nat)] w fun e w' => e = Value.pointer (pzq y.x) ∧ ∃ sl', TO w' t st d r sl' D seed limit (its.eraseIdx i ++ [y]) ∧ Turned (foot t st d r sl its) (foot t st d r sl' (its.eraseIdx i ++ [y])) w w' := by
 apply table_Table_touch.vc
 have hil := (ali03.1 hi).1
 have hym : y ∈ its := ali00 hi
 have hlen := h.len
 refine (out_spec h hi).mono ?_
 rintro e w0 ⟨rfl, sl0, h0, m0, b0⟩
 have hy0 := h.item m0 (h.it y hym)
 refine ⟨_, rfl, sl0, h0.rt.at 3 rfl, fun w3 e3 => ?_⟩
 have x3 := eaa e3
 have h3 := h0.ext x3
 have hsub : List.Sublist (its.eraseIdx i) its := alj15 ..
 have hel : (its.eraseIdx i).length = its.length - 1 := by rw [List.length_eraseIdx, if_pos hil]
 obtain ⟨hp, hr⟩ := h3.push y (hy0.ext x3) (erase_not h.dx hi) (erase_not h.dg hi) omm
 refine ⟨hp, fun s4 w5 hres => ?_⟩
 obtain ⟨m5, p1, p2⟩ := hr s4 w5 hres
 have ht0 := h0.rt.lt
 have z3 := hs1 e3
 refine ⟨m5.same _ omm fun e => by have := (h0.ol.own.lt e).2; omega, ⟨rfl, p1⟩, fun e => ?_, fun w6 e6 => ⟨rfl, s4, ?_⟩⟩
 ·rw [pblk_padd] at e
  have : t = w0.heap.size := by simpa [pblk] using e
  omega
 ·obtain ⟨q1, q2, q3⟩ := p2 w6 e6
  have z0 := m0.size
  refine ⟨q1, ⟨?_, ?_⟩⟩
  ·have a1 : Mod (foot t st d r sl its) w w3 := (m0.mono fun i _ hi => slF_foot i hi).trans (Mod.of_ext x3)
   refine a1.tr q2 fun j hj => ?_
   rcases hj with e | e
   ·exact .inl (.inl e)
   ·rcases b0 j e with e | e
    ·exact .inl (.inr (.inr (.inr (.inr (.inl e)))))
    ·exact .inr e
  ·refine foot_sub (w := w) (fun b hb => ?_) (fun z hz => .inl ?_)
   ·rcases q3 b hb with e | e
    ·exact b0 b e
    ·exact .inr omm
   ·rcases ali25.1 hz with hz | hz
    ·exact hsub.subset hz
    ·simp at hz; subst hz; exact hym
end Go.Proofs.YtjcnjlaelhdjeaaGreatDoor
namespace Go.Proofs.YtjcnjlaelhdjeaaGreatDoor
open Go Go.Vc Go.RowKit Go.Proofs Go.Chk Go.Runs Go.Code
theorem TO.put {w w' : World} {t st d : Nat} {r : Dm} {sl : Sl} {D : Dk} {seed limit : Int} {its : List It} (h : TO w t st d r sl D seed limit its) {i : Nat} {y y' : It} (hi : its[i]? = some y) (hx : y'.x = y.x) (hg : y'.g = y.g) (hm : Mod (fun j => j = y.x) w w') (hy : ItIs w' y') : TO w' t st d r sl D seed limit (its.set i y') := by
 have hil := (ali03.1 hi).1
 have hr := (h.it y (ali00 hi)).r
 have off : ∀ {j : Nat} {cs : LV} {τ : TypeId}, Row w j cs τ → τ ≠ tItem → ¬ j = y.x := fun hr' ht e => hr'.ne hr ht e
 have hpx : ptrs (its.set i y') = ptrs its := by
  unfold ptrs
  rw [alj36, hx]
  apply ali20
  intro j
  rw [ali33]
  split
  ·rename_i e; subst e
   rw [if_pos (by rw [ali01]; exact hil), ali02, hi]; rfl
  ·rfl
 have hmx : (its.set i y').map (·.x) = its.map (·.x) := by
  rw [alj36, hx]
  apply ali20
  intro j
  rw [ali33]
  split
  ·rename_i e; subst e
   rw [if_pos (by rw [ali01]; exact hil), ali02, hi]; rfl
  ·rfl
 have hmg : (its.set i y').map (·.g) = its.map (·.g) := by
  rw [alj36, hg]
  apply ali20
  intro j
  rw [ali33]
  split
  ·rename_i e; subst e
   rw [if_pos (by rw [ali01]; exact hil), ali02, hi]; rfl
  ·rfl
 refine ⟨hm.row h.rt (off h.rt dcc), h.so.keep hm (fun hr' hτ => by rcases hτ with rfl | rfl | rfl | rfl <;> exact off hr' dcc) (fun hmp e => hr.ne_map hmp e.symm), ?_, fun z hz => ?_, by rw [hmx]; exact h.dx, by rw [hmg]; exact h.dg, h.lim, by rw [ali31]; exact h.len⟩
 ·rw [hpx]
  exact hm.ownK h.ol fun b hb => by
   obtain ⟨cs', hr'⟩ := own_row h.ol dcc hb
   exact off hr' dcc
 ·obtain ⟨j, hj⟩ := alj26 hz
  rw [ali33] at hj
  split at hj
  ·cases hj; exact hy
  ·rename_i hne
   have hzj := h.it z (ali00 hj)
   refine hzj.keep hm (fun e => ?_) (off hzj.k.row dcc) (fun b hb => ?_)
   ·
    have h1 : (its.map (·.x))[i]? = some y.x := by rw [ali02, hi]; rfl
    have h2 : (its.map (·.x))[j]? = some z.x := by rw [ali02, hj]; rfl
    have hjl := (ali03.1 hj).1
    rw [e, ← h1] at h2
    exact hne ((List.getElem?_inj (by rw [ali01]; exact hjl) h.dx).1 h2).symm
   ·obtain ⟨cs', hr'⟩ := own_row hzj.k.own dcc hb
    exact off hr' dcc
theorem foot_put {t st d : Nat} {r : Dm} {sl : Sl} {its : List It} {i : Nat} {y y' : It} (hi : its[i]? = some y) (hx : y'.x = y.x) (hg : y'.g = y.g) (hs : y'.s = y.s) : ∀ j, foot t st d r sl (its.set i y') j → foot t st d r sl its j := by
 rintro j (e | e | e | e | e | ⟨z, hz, e⟩)
 ·exact .inl e
 ·exact .inr (.inl e)
 ·exact .inr (.inr (.inl e))
 ·exact .inr (.inr (.inr (.inl e)))
 ·exact .inr (.inr (.inr (.inr (.inl e))))
 ·rcases ali14 hz with hz | hz
  ·exact .inr (.inr (.inr (.inr (.inr ⟨z, hz, e⟩))))
  ·subst hz
   rw [hx, hg, hs] at e
   exact .inr (.inr (.inr (.inr (.inr ⟨y, ali00 hi, e⟩))))
abbrev En := Po × List Int × Bool × Int
def It.ob (i : It) : En := (i.p, i.C, i.dirty, i.pins)
abbrev obs (its : List It) : List En := its.map It.ob
theorem obs_erase (its : List It) (i : Nat) : obs (its.eraseIdx i) = (obs its).eraseIdx i := by
 unfold obs
 rw [alj14, alj14, ali08, List.map_take, List.map_drop]
theorem first_ob (its : List It) (p : Po) : firstI (fun e : En => e.1 == p) (obs its) = firstI (fun i : It => i.p == p) its := firstI_map It.ob _ its
abbrev Tb := Dk × List En
def saveE (D : Dk) (e : En) : Dk × En × Int :=
 if e.2.2.1 = true then ((svS D (idK e.1) (wrB (ofC e.2.1))).1, (e.1, e.2.1, decide ((svS D (idK e.1) (wrB (ofC e.2.1))).2 ≠ 0), e.2.2.2), (svS D (idK e.1) (wrB (ofC e.2.1))).2) else (D, e, 0)
def goE (D : Dk) (l : List En) (i : Nat) : Tb × Int :=
 match l[i]? with
 | none => ((D, l), 0)
 | some e => if (saveE D e).2.2 = 0 then (((saveE D e).1, l.eraseIdx i), 0) else (((saveE D e).1, l.set i (saveE D e).2.1), (saveE D e).2.2)
def roomE (limit : Int) (D : Dk) (l : List En) : Tb × Int :=
 if (l.length : Int) < limit then ((D, l), 0) else if firstI (fun e : En => e.2.2.2 == 0) l < 0 then ((D, l), 8) else goE D l (firstI (fun e : En => e.2.2.2 == 0) l).toNat
theorem TO.dOff {w : World} {t st d : Nat} {r : Dm} {sl : Sl} {D : Dk} {seed limit : Int} {its : List It} (h : TO w t st d r sl D seed limit its) {j : Nat} {cs : LV} {τ : TypeId} (hr : Row w j cs τ) (h1 : τ ≠ tDisk) (h2 : τ ≠ tW) : ¬ (j = d ∨ r.ls.blk = some j) := by
 rintro (e | e)
 ·exact hr.ne h.so.dk.rd h1 e
 ·obtain ⟨cs', hr'⟩ := own_row h.so.dk.ol dcc e
  exact hr.ne hr' h2 rfl
theorem TO.store {w w' : World} {t st d : Nat} {r r' : Dm} {sl : Sl} {D D' : Dk} {seed limit : Int} {its : List It} (h : TO w t st d r sl D seed limit its) (hm : Mod (fun i => i = d ∨ r.ls.blk = some i) w w') (hs : SO w' st d r' D') : TO w' t st d r' sl D' seed limit its := by
 refine ⟨hm.row h.rt (h.dOff h.rt dcc dcc), hs, hm.ownK h.ol fun b hb => ?_, fun y hy => ?_, h.dx, h.dg, h.lim, h.len⟩
 ·obtain ⟨cs', hr'⟩ := own_row h.ol dcc hb
  exact h.dOff hr' dcc dcc
 ·have hy' := h.it y hy
  refine hy'.keep hm (h.dOff hy'.r dcc dcc) (h.dOff hy'.k.row dcc dcc) fun b hb => ?_
  obtain ⟨cs', hr'⟩ := own_row hy'.k.own dcc hb
  exact h.dOff hr' dcc dcc
theorem foot_store {n : Nat} {t st d : Nat} {r r' : Dm} {sl : Sl} {its : List It} (hs : ∀ i, dF d r' i → dF d r i ∨ n ≤ i) : ∀ i, foot t st d r' sl its i → foot t st d r sl its i ∨ n ≤ i := by
 rintro i (e | e | e | e | e | e)
 ·exact .inl (.inl e)
 ·exact .inl (.inr (.inl e))
 ·exact .inl (.inr (.inr (.inl e)))
 ·rcases hs i (.inr e) with q | q
  ·rcases q with q | q
   ·exact .inl (.inr (.inr (.inl q)))
   ·exact .inl (.inr (.inr (.inr (.inl q))))
  ·exact .inr q
 ·exact .inl (.inr (.inr (.inr (.inr (.inl e)))))
 ·exact .inl (.inr (.inr (.inr (.inr (.inr e)))))
theorem dF_foot {t st d : Nat} {r : Dm} {sl : Sl} {its : List It} : ∀ i, (i = d ∨ r.ls.blk = some i) → foot t st d r sl its i := by
 rintro i (e | e)
 ·exact .inr (.inr (.inl e))
 ·exact .inr (.inr (.inr (.inl (.inr (.inl e)))))
theorem wrB_bys {C : List Int} : Bys (wrB (ofC C)) := wrB_in _
theorem wrB_le {C : List Int} (hl : C.length = 8192) : (wrB (ofC C)).length ≤ 65536 := by
 have h1 := wrB_len (ofC C)
 have h2 := ofC_len C
 omega
set_option maxRecDepth 100000 in
theorem save_spec {w : World} {t st d : Nat} {r : Dm} {sl : Sl} {D : Dk} {seed limit : Int} {its : List It} (h : TO w t st d r sl D seed limit its) (hW : D.l.length ≤ 1000000) {i : Nat} {y : It} (hi : its[i]? = some y) :
  Cal 164 #[t, .pointer (some ⟨y.x, 0, none⟩)] w fun e w' => e = Value.int .i64 (saveE D y.ob).2.2 ∧ ∃ r' y', TO w' t st d r' sl (saveE D y.ob).1 seed limit (its.set i y') ∧ y'.ob = (saveE D y.ob).2.1 ∧ Turned (foot t st d r sl its) (foot t st d r' sl (its.set i y')) w w' := by
 apply table_Table_save.vc
 have hym := ali00 hi
 have hy := h.it y hym
 have hset : its.set i y = its := by
  obtain ⟨hl, he⟩ := ali03.1 hi
  rw [← he]; exact List.set_getElem_self hl
 refine ⟨_, hy.r.at 1 rfl, Br.mk (fun hb => ?_) (fun hb => ?_)⟩
 ·have hd : y.dirty = false := by simpa using hb
  have e : saveE D y.ob = (D, y.ob, 0) := by unfold saveE; rw [if_neg (by show ¬ y.dirty = true; rw [hd]; decide)]
  rw [e]
  exact ⟨rfl, r, y, by rw [hset]; exact h, rfl, by rw [hset]; exact Turned.refl _ _⟩
 ·have hd : y.dirty = true := by simpa using hb
  have e : saveE D y.ob = ((svS D (idK y.p) (wrB (ofC y.C))).1, (y.p, y.C, decide ((svS D (idK y.p) (wrB (ofC y.C))).2 ≠ 0), y.pins), (svS D (idK y.p) (wrB (ofC y.C))).2) := by unfold saveE; rw [if_pos (by show y.dirty = true; exact hd)]; rfl
  rw [e]
  refine ⟨_, hy.r.at 0 rfl, nnS (nnS ⟨_, _, hy.k.pos, (Place_spec y.p w).mono ?_⟩)⟩
  rintro e w4 ⟨rfl, x4⟩
  refine ⟨_, _, rfl, (Id_spec y.p w4).mono ?_⟩
  rintro e w7 ⟨rfl, x7⟩
  have x07 := (x4.tr x7).tr (Ext.dr w7)
  have h7 := h.ext x07
  have hy7 := h7.it y hym
  refine ⟨_, _, rfl, _, h7.rt.at 0 rfl, _, hy7.r.at 0 rfl, (Bytes_spec hy7.k).mono ?_⟩
  rintro e w12 ⟨s13, rfl, o13, x12⟩
  have x012 := x07.tr x12
  have h12 := h.ext x012
  have hk := hy.k
  refine ⟨s13, rfl, ldOne (h12.rt.at 0 rfl), (stSave_spec h12.so hW (idK y.p) s13 (wrB (ofC y.C)) (OwY.rdy o13) wrB_bys (ali41 (wrB_le hk.len) dcc)).mono ?_⟩
  rintro e w14 ⟨rfl, r', hs14, m14, f14, -⟩
  have h14 := h12.store m14 hs14
  have hy14 := h14.it y hym
  obtain ⟨p1, p2⟩ := hy14.r.put1 (j := 1) (v := .bool ((svS D (idK y.p) (wrB (ofC y.C))).2 != 0)) smm rfl
  refine ⟨_, rfl, ⟨rfl, p1⟩, fun w16 e16 => ?_⟩
  obtain ⟨q1, q2⟩ := p2 w16 e16
  have hbd : ((svS D (idK y.p) (wrB (ofC y.C))).2 != 0) = decide ((svS D (idK y.p) (wrB (ofC y.C))).2 ≠ 0) := by
   rw [Bool.eq_iff_iff]; simp
  rw [hbd] at q1
  have hy' : ItIs w16 { y with dirty := decide ((svS D (idK y.p) (wrB (ofC y.C))).2 ≠ 0) } := ⟨q1, hy14.k.keep q2 (fun e => hy14.k.row.ne hy14.r dcc e) fun b hb => by
   obtain ⟨cs', hr'⟩ := own_row hy14.k.own dcc hb
   exact hr'.ne hy14.r dcc⟩
  have z12 := x012.size
  have z14 := m14.size
  refine ⟨rfl, r', { y with dirty := decide ((svS D (idK y.p) (wrB (ofC y.C))).2 ≠ 0) }, h14.put hi rfl rfl q2 hy', rfl, ?_⟩
  have t1 : Turned (foot t st d r sl its) (foot t st d r' sl its) w12 w14 := ⟨m14.mono fun i _ hi => dF_foot i hi, foot_store f14⟩
  have t2 : Turned (foot t st d r' sl its) (foot t st d r' sl (its.set i { y with dirty := decide ((svS D (idK y.p) (wrB (ofC y.C))).2 ≠ 0) })) w14 w16 := ⟨q2.mono fun j _ hj => .inr (.inr (.inr (.inr (.inr ⟨y, hym, .inl hj⟩)))), fun j hj => .inl (foot_put (y' := { y with dirty := decide ((svS D (idK y.p) (wrB (ofC y.C))).2 ≠ 0) }) hi rfl rfl rfl j hj)⟩
  exact (Turned.of_ext x012).trans (t1.trans t2)
end Go.Proofs.YtjcnjlaelhdjeaaGreatDoor
namespace Go.Proofs.YtjcnjlaelhdjeaaGreatDoor
open Go Go.Vc Go.RowKit Go.Proofs Go.Chk Go.Runs Go.Code
abbrev LdRes (w : World) (t st d : Nat) (r : Dm) (sl : Sl) (seed limit : Int) (its : List It) (T : Tb) (w' : World) : Prop :=
 ∃ r' sl' its', TO w' t st d r' sl' T.1 seed limit its' ∧ obs its' = T.2 ∧ Turned (foot t st d r sl its) (foot t st d r' sl' its') w w'
theorem obs_at {its : List It} {i : Nat} {y : It} (h : its[i]? = some y) : (obs its)[i]? = some y.ob := by rw [ali02, h]; rfl
theorem obs_put {its : List It} {i : Nat} {y' : It} {e : En} (h : y'.ob = e) : obs (its.set i y') = (obs its).set i e := by unfold obs; rw [alj36, h]
theorem goE_at {D : Dk} {l : List En} {i : Nat} {e : En} (h : l[i]? = some e) : goE D l i = if (saveE D e).2.2 = 0 then (((saveE D e).1, l.eraseIdx i), 0) else (((saveE D e).1, l.set i (saveE D e).2.1), (saveE D e).2.2) := by unfold goE; rw [h]
theorem out_turn {w w' : World} {t st d : Nat} {r : Dm} {sl sl' : Sl} {its its' : List It} (hm : Mod (slF t sl) w w') (hb : ∀ b, sl'.blk = some b → sl.blk = some b ∨ w.heap.size ≤ b) (hs : ∀ y ∈ its', y ∈ its) : Turned (foot t st d r sl its) (foot t st d r sl' its') w w' :=
 ⟨hm.mono fun i _ hi => slF_foot i hi, foot_sub hb fun y hy => .inl (hs y hy)⟩
set_option maxRecDepth 100000 in
theorem room_spec {w : World} {t st d : Nat} {r : Dm} {sl : Sl} {D : Dk} {seed limit : Int} {its : List It} (h : TO w t st d r sl D seed limit its) (hW : D.l.length ≤ 1000000) :
  Cal 160 #[t] w fun e w' => e = Value.int .i64 (roomE limit D (obs its)).2 ∧ LdRes w t st d r sl seed limit its (roomE limit D (obs its)).1 w' ∧ ((roomE limit D (obs its)).2 = 0 → ((roomE limit D (obs its)).1.2.length : Int) + 1 ≤ limit) := by
 apply table_Table_room.vc
 have hd := h.ext (Ext.dr w)
 have hn := h.n
 have hol : (obs its).length = its.length := by rw [ali01]
 have hlen := h.len
 have hlim := h.lim
 refine ⟨sl, hd.rt.at 3 rfl, limit, hd.rt.at 2 rfl, Br.mk (fun hb => ?_) (fun hb => ?_)⟩
 ·replace hb := q0T hb
  have e : roomE limit D (obs its) = ((D, obs its), 0) := by unfold roomE; rw [if_pos omm]
  rw [e]
  exact ⟨rfl, ⟨r, sl, its, hd, rfl, Turned.of_ext (Ext.dr w)⟩, fun _ => by simp only; omega⟩
 ·replace hb := q0F hb
  refine ⟨sl, hd.rt.at 3 rfl, (indexFunc_spec sl its (·.x) _ (fun i => i.pins == 0) w.drew (hd.ol.rd dcc) omm ?_).mono ?_⟩
  ·intro y hy w' x'
   refine callV_of (by kernel_rfl) (by rfl) ?_
   apply table_Table_room_1.vc
   have hy' := (hd.it y hy).ext x'
   exact ⟨_, hy'.r.at 2 rfl, rfl, Ext.rfl' _⟩
  ·rintro e w3 ⟨rfl, x3⟩
   have h3 := hd.ext x3
   have hfm : firstI (fun e : En => e.2.2.2 == 0) (obs its) = firstI (fun i : It => i.pins == 0) its := firstI_map It.ob _ its
   have x03 : Ext w w3 := (Ext.dr w).tr x3
   refine ⟨_, rfl, Br.mk (fun hb2 => ?_) (fun hb2 => ?_)⟩
   ·replace hb2 := q0T hb2
    have e : roomE limit D (obs its) = ((D, obs its), 8) := by unfold roomE; rw [if_neg omm, if_pos omm]
    rw [e]
    exact ⟨rfl, ⟨r, sl, its, h3, rfl, Turned.of_ext x03⟩, fun h => by simp at h⟩
   ·replace hb2 := q0F hb2
    rcases firstI_cases (fun i : It => i.pins == 0) its with ⟨h1, -⟩ | ⟨k, y, hk, -, hfk, -⟩
    ·omega
    ·have e : roomE limit D (obs its) = goE D (obs its) k := by
      unfold roomE
      rw [if_neg omm, if_neg omm, hfm, hfk]; rfl
     rw [hfk, e, goE_at (obs_at hk)]
     obtain ⟨a1, a2⟩ := h3.at hk
     have hkl := (ali03.1 hk).1
     refine ⟨sl, h3.rt.at 3 rfl, a1, _, a2, (save_spec h3 hW hk).mono ?_⟩
     rintro e w7 ⟨rfl, r', y', h7, hob, t7⟩
     refine ⟨_, rfl, Br.mk (fun hz => ?_) (fun hz => ?_)⟩
     ·have hz := qdq hz
      have hk' : (its.set k y')[k]? = some y' := ali32 hkl
      refine (out_spec h7 hk').mono ?_
      rintro e w9 ⟨rfl, sl', h9, m9, b9⟩
      rw [List.eraseIdx_set_eq] at h9
      refine ⟨_, rfl, ?_⟩
      rw [if_pos hz]
      refine ⟨by rw [hz], ⟨r', sl', _, h9, obs_erase _ _, (Turned.of_ext x03).trans (t7.trans (out_turn m9 b9 fun z hz => ?_))⟩, fun _ => ?_⟩
      ·rw [← List.eraseIdx_set_eq (l := its) (i := k) (a := y')] at hz
       exact (alj15 ..).subset hz
      ·simp only [List.length_eraseIdx]; split <;> omega
     ·have hz := qdq hz
      rw [if_neg hz]
      exact ⟨rfl, ⟨r', sl, _, h7, obs_put hob, (Turned.of_ext x03).trans t7⟩, fun q => absurd q hz⟩
theorem saveE_l (D : Dk) (e : En) : (saveE D e).1.l.length ≤ D.l.length + 1 := by
 unfold saveE
 split
 ·exact save_l _ _ _
 ·exact alj58 _
theorem goE_l (D : Dk) (l : List En) (i : Nat) : (goE D l i).1.1.l.length ≤ D.l.length + 1 := by
 unfold goE
 split
 ·exact alj58 _
 ·split <;> exact saveE_l _ _
theorem roomE_l (limit : Int) (D : Dk) (l : List En) : (roomE limit D l).1.1.l.length ≤ D.l.length + 1 := by
 unfold roomE
 split
 ·exact alj58 _
 ·split
  ·exact alj58 _
  ·exact goE_l _ _ _
theorem inT_okP {p : Po} (h : inT p) : okP p := by unfold inT at h; unfold okP; omega
def cellsB (seed : Int) (p : Po) (b : List Int) : List Int := if (readB bMay b 8192).2 = 0 then cellsR (readB bMay b 8192).1 else made seed p
def ldE (seed limit : Int) (D : Dk) (l : List En) (p : Po) : Tb × Int :=
 if ¬ inT p then ((D, l), 5)
 else if 0 ≤ firstI (fun e : En => e.1 == p) l then ((D, l.eraseIdx (firstI (fun e : En => e.1 == p) l).toNat ++ l[(firstI (fun e : En => e.1 == p) l).toNat]?.toList), 0)
 else if (roomE limit D l).2 ≠ 0 then roomE limit D l
 else (((roomE limit D l).1.1, (roomE limit D l).1.2 ++ [(p, cellsB seed p (ldS (roomE limit D l).1.1 (idK p)).1, false, 0)]), 0)
set_option maxRecDepth 100000 in
theorem push_new {w v : World} {t st d : Nat} {r : Dm} {sl : Sl} {D : Dk} {seed limit : Int} {its : List It} (h : TO v t st d r sl D seed limit its) (hw : w.heap.size < v.heap.size) (hwf : ¬ foot t st d r sl its w) (htw : t < w) (hr : (its.length : Int) + 1 ≤ limit) {g : Nat} {s : Sl} {p : Po} {C : List Int} (hk : KIs v g s p C) (hg : g ∉ its.map (·.g)) (u : World) (hn : u.heap.size ≤ v.heap.size) (hgn : u.heap.size ≤ g) (hsn : ∀ b, s.blk = some b → u.heap.size ≤ b)
  {K : World → Prop} (hK : ∀ w', (∃ s' y, TO w' t st d r s' D seed limit (its ++ [y]) ∧ y.ob = (p, C, false, 0) ∧ (∀ i, foot t st d r s' (its ++ [y]) i → foot t st d r sl its i ∨ u.heap.size ≤ i) ∧ Mod (foot t st d r sl its) v w') → K w') :
  ∃ (s21 : Sl), ld v (padd (pzq t) 3) = some (.slice s21.a s21.n s21.c) ∧
   ∀ w22 : World, w22 = v.alloc (.cells #[g, false, vzz] tItem) →
   ∀ w23 : World, w23 = w22.alloc (.cells #[v] tPI) →
   AppPre 8 1 w23 ⟨s21.a, s21.n, s21.c⟩ 1 [v] ∧ ∀ (s24 : Sl) (w25 : World), AppRes tPI 1 w23 ⟨s21.a, s21.n, s21.c⟩ 1 [v] s24 w25 → w25.heap[w.heap.size]? = w23.heap[w.heap.size]? ∧ w25.heap[w22.heap.size]? = w23.heap[w22.heap.size]? ∧
    (true = true ∧ Wr w25 (padd (pzq t) 3) 1) ∧ pblk (padd (pzq t) 3) ≠ some w.heap.size ∧ pblk (padd (pzq t) 3) ≠ some w22.heap.size ∧ (∀ w26 : World, w26 = setP w25 (padd (pzq t) 3) [.slice s24.a s24.n s24.c] → K w26) := by
 refine ⟨sl, h.rt.at 3 rfl, fun w22 e22 w23 e23 => ?_⟩
 have x22 := eaa e22
 have x23 := eaa e23
 have z22 := hs1 e22
 have z23 : w23.heap.size = v.heap.size + 2 := by rw [e23]; simp [z22]
 have hy : ItIs w23 ⟨v.heap.size, g, s, p, C, false, 0⟩ := ⟨(by rw [e22]; exact Row.new v [_, _, _] _ : Row w22 v.heap.size [g, false, vzz] tItem).ext x23, (hk.ext x22).ext x23⟩
 have h23 := (h.ext x22).ext x23
 have hxn : v.heap.size ∉ its.map (·.x) := fun hm => by
  obtain ⟨z, hz, e⟩ := ali06.1 hm
  have := (h.it z hz).r.lt; omega
 obtain ⟨hp, hres⟩ := h23.push _ hy hxn hg hr
 refine ⟨hp, fun s24 w25 hr25 => ?_⟩
 obtain ⟨m25, p1, p2⟩ := hres s24 w25 hr25
 have pb : ∀ j : Nat, t < j → pblk (padd (pzq t) 3) ≠ some j := fun j hj e => by
  rw [pblk_padd] at e
  have : t = j := by simpa [pblk] using e
  omega
 have htl := h.rt.lt
 refine ⟨m25.same _ omm fun e => hwf (.inr (.inr (.inr (.inr (.inl e))))), m25.same _ omm fun e => by have := (h.ol.own.lt e).2; omega, ⟨rfl, p1⟩, pb _ htw, pb _ omm, fun w26 e26 => hK w26 ⟨s24, ⟨v.heap.size, g, s, p, C, false, 0⟩, ?_, rfl, ?_, ?_⟩⟩
 ·exact (p2 w26 e26).1
 ·obtain ⟨-, q2, q3⟩ := p2 w26 e26
  rintro i hi
  exact foot_sub (w := u) (sl := sl) (its := its) (fun b hb => (q3 b hb).imp id fun e => by omega) (fun z hz => by
   rcases ali25.1 hz with hz | hz
   ·exact .inl hz
   ·simp at hz; subst hz
    exact .inr ⟨hn, hgn, hsn⟩) i hi
 ·obtain ⟨-, q2, q3⟩ := p2 w26 e26
  exact (Mod.of_ext (x22.tr x23)).trans (q2.mono fun i _ hi => slF_foot i hi)
set_option maxRecDepth 100000 in
theorem Load_spec {w : World} {t st d : Nat} {r : Dm} {sl : Sl} {D : Dk} {seed limit : Int} {its : List It} (h : TO w t st d r sl D seed limit its) (hW : D.l.length ≤ 1000000) (p : Po) :
  Cal 88 #[t, pv p] w fun e w' => e = Value.int .i64 (ldE seed limit D (obs its) p).2 ∧ LdRes w t st d r sl seed limit its (ldE seed limit D (obs its) p).1 w' := by
 apply table_Table_Load.vc
 intro w0 e0
 have z0 := hs1 e0
 have x0 := eaa e0
 refine (Id_spec p w0).mono ?_
 rintro e w1 ⟨rfl, x1⟩
 have z1 := x1.size
 have x01 := x0.tr x1
 refine ⟨_, _, rfl, x1.heap omm, ?_⟩
 by_cases hin : inT p
 ·rw [decide_eq_true hin]
  refine Br.mk (fun h => by cases h) (fun _ => ?_)
  have h1 := h.ext x01
  refine (find_spec h1 p).mono ?_
  rintro e w4 ⟨rfl, x4⟩
  have z4 := x4.size
  have x04 := x01.tr x4
  have h4 := h.ext x04
  have hfm : firstI (fun e : En => e.1 == p) (obs its) = firstI (fun i : It => i.p == p) its := firstI_map It.ob _ its
  have bx : ¬ foot t st d r sl its w := fun hf => by have := h.lt hf; omega
  refine ⟨_, rfl, x4.heap omm, ?_⟩
  rcases firstI_cases (fun i : It => i.p == p) its with ⟨hf, -⟩ | ⟨k, y, hk, -, hf, -⟩
  ·rw [hf]
   refine Br.mk (fun h => by simp at h) (fun _ => ?_)
   have hE : ldE seed limit D (obs its) p = if (roomE limit D (obs its)).2 ≠ 0 then roomE limit D (obs its) else (((roomE limit D (obs its)).1.1, (roomE limit D (obs its)).1.2 ++ [(p, cellsB seed p (ldS (roomE limit D (obs its)).1.1 (idK p)).1, false, 0)]), 0) := by
    unfold ldE
    rw [if_neg (by simpa using hin), hfm, hf, if_neg dcc]
   rw [hE]
   refine (room_spec h4 hW).mono ?_
   rintro e w8 ⟨rfl, ⟨r8, sl8, its8, h8, ho8, t8⟩, hl8⟩
   have hWl : ((roomE limit D (obs its)).1.1).l.length ≤ 1000001 := by
    have := roomE_l limit D (obs its)
    omega
   generalize roomE limit D (obs its) = R at *
   have z8 := t8.mod.size
   have t08 : Turned (foot t st d r sl its) (foot t st d r8 sl8 its8) w w8 := (Turned.of_ext x04).trans t8
   refine ⟨_, rfl, t8.mod.same _ omm bx, Br.mk (fun hb => ?_) (fun hb => ?_)⟩
   ·have hne := qdq hb
    rw [if_pos hne]
    exact ⟨rfl, r8, sl8, its8, h8, ho8, t08⟩
   ·have he := qdq hb
    rw [if_neg (by rw [he]; decide)]
    have hroom := hl8 he
    rw [← ho8, ali01] at hroom
    refine ⟨_, h8.rt.at 0 rfl, (stLoad_spec h8.so omm _).mono ?_⟩
    rintro e w11 ⟨s12, rfl, hs12, hby, hbl, hsc, -, x11⟩
    have z11 := x11.size
    have bx8 : ¬ foot t st d r8 sl8 its8 w := fun hf => by
     rcases t8.sub _ hf with q | q
     ·exact bx q
     ·have := x04.size; omega
    refine ⟨s12, _, _, rfl, x11.heap omm, ?_⟩
    refine (Read_spec p s12 (ldS R.1.1 (idK p)).1 w11 hs12 hby hsc omm).mono ?_
    rintro e w15 ⟨hres, x15⟩
    have z15 := x15.size
    have htw := h.rt.lt
    have fin : ∀ {w' v : World} {C : List Int}, Ext w8 v → (∃ s' y, TO w' t st d r8 s' R.1.1 seed limit (its8 ++ [y]) ∧ y.ob = (p, C, false, 0) ∧ (∀ i, foot t st d r8 s' (its8 ++ [y]) i → foot t st d r8 sl8 its8 i ∨ w8.heap.size ≤ i) ∧ Mod (foot t st d r8 sl8 its8) v w') → C = cellsB seed p (ldS R.1.1 (idK p)).1 →
      Ending.returned (0:Int) = (0:Int) ∧ LdRes w t st d r sl seed limit its (R.1.1, R.1.2 ++ [(p, cellsB seed p (ldS R.1.1 (idK p)).1, false, 0)]) w' := by
     rintro w' v C xv ⟨s', y, hT, hob, hsub, hm⟩ rfl
     refine ⟨rfl, r8, s', _, hT, ?_, t08.trans ⟨(Mod.of_ext xv).trans hm, hsub⟩⟩
     unfold obs
     rw [ali08]
     change obs its8 ++ [y.ob] = _
     rw [ho8, hob]
    rcases hres with ⟨hz, g, sg, rfl, hk, hg, -, hgb⟩ | ⟨hz, rfl⟩
    ·refine ⟨_, _, rfl, x15.heap omm, Br.mk (fun q => by simp at q) (fun _ => ?_)⟩
     have x815 := x11.tr x15
     have h15 := h8.ext x815
     have hgn : g ∉ its8.map (·.g) := fun hm => by
      obtain ⟨z, hz, e⟩ := ali06.1 hm
      have := (h8.it z hz).k.row.lt; omega
     refine push_new (w := w) h15 omm bx8 htw hroom hk hgn w8 omm omm (fun b hb => by have := hgb b hb; omega) fun w' hw' => fin x815 hw' ?_
     unfold cellsB; rw [if_pos hz]
    ·refine ⟨_, _, rfl, x15.heap omm, Br.mk (fun _ => ?_) (fun q => by simp at q; exact absurd q hz)⟩
     have x815 := x11.tr x15.drew
     have h15 := h8.ext x815
     refine ⟨seed, h15.rt.at 1 rfl, (Make_spec' seed p (inT_okP hin) w15.drew).mono ?_⟩
     rintro e w19 ⟨g, sg, rfl, hk, x19, hg, hsb⟩
     have z19 := x19.size
     have zd := zdr w15
     have h19 := h15.ext x19
     have hgn : g ∉ its8.map (·.g) := fun hm => by
      obtain ⟨z, hz, e⟩ := ali06.1 hm
      have := (h15.it z hz).k.row.lt; omega
     refine ⟨_, rfl, x19.heap omm, push_new (w := w) h19 omm bx8 htw hroom hk hgn w8 omm omm (fun b hb => by have := hsb b hb; omega) fun w' hw' => fin (x815.tr x19) hw' ?_⟩
     unfold cellsB; rw [if_neg hz]
  ·rw [hf]
   refine Br.mk (fun _ => ?_) (fun h => by simp at h)
   have hE : ldE seed limit D (obs its) p = ((D, (obs its).eraseIdx k ++ [y.ob]), 0) := by
    unfold ldE
    rw [if_neg (by simpa using hin), hfm, hf, if_pos omm, ali30, ali02, hk]; rfl
   rw [hE]
   refine (touch_spec h4 hk).mono ?_
   rintro e w6 ⟨rfl, sl6, h6, t6⟩
   have z6 := t6.mod.size
   refine ⟨_, rfl, t6.mod.same _ omm bx, rfl, r, sl6, _, h6, ?_, (Turned.of_ext x04).trans t6⟩
   unfold obs
   rw [ali08]
   change obs _ ++ _ = _
   rw [obs_erase]; rfl
 ·rw [decide_eq_false hin]
  refine Br.mk (fun _ => ?_) (fun h => by cases h)
  have hE : ldE seed limit D (obs its) p = ((D, obs its), 5) := by unfold ldE; rw [if_pos hin]
  rw [hE]
  exact ⟨rfl, r, sl, its, h.ext x01, rfl, Turned.of_ext x01⟩
end Go.Proofs.YtjcnjlaelhdjeaaGreatDoor
namespace Go.Proofs.YtjcnjlaelhdjeaaGreatDoor
open Go Go.Vc Go.RowKit Go.Proofs Go.Chk Go.Runs Go.Code
theorem yes {b : Bool} {A B : Prop} (hb : b = true) (h : A) : Br b A B := by subst hb; exact h
theorem nope {b : Bool} {A B : Prop} (hb : b = false) (h : B) : Br b A B := by subst hb; exact h
def flE (D : Dk) (l : List En) (p : Po) : Tb × Int :=
 if 0 ≤ firstI (fun e : En => e.1 == p) l then
  match l[(firstI (fun e : En => e.1 == p) l).toNat]? with
  | some e => (((saveE D e).1, l.set (firstI (fun e : En => e.1 == p) l).toNat (saveE D e).2.1), (saveE D e).2.2)
  | none => ((D, l), 0)
 else ((D, l), 6)
theorem Flush_spec {w : World} {t st d : Nat} {r : Dm} {sl : Sl} {D : Dk} {seed limit : Int} {its : List It} (h : TO w t st d r sl D seed limit its) (hW : D.l.length ≤ 1000000) (p : Po) :
  Cal 90 #[t, pv p] w fun e w' => e = Value.int .i64 (flE D (obs its) p).2 ∧ LdRes w t st d r sl seed limit its (flE D (obs its) p).1 w' := by
 apply table_Table_Flush.vc
 intro w0 e0
 have z0 := hs1 e0
 have x0 := eaa e0
 refine (find_spec (h.ext x0) p).mono ?_
 rintro e w1 ⟨rfl, x1⟩
 have z1 := x1.size
 have x01 := x0.tr x1
 have h1 := h.ext x01
 have bx : ¬ foot t st d r sl its w := fun hf => by have := h.lt hf; omega
 refine ⟨_, rfl, x1.heap omm, ?_⟩
 rcases firstI_cases (fun i : It => i.p == p) its with ⟨hf, -⟩ | ⟨k, y, hk, hyp, hf, -⟩
 ·have hE : flE D (obs its) p = ((D, obs its), 6) := by unfold flE; rw [first_ob, hf, if_neg dcc]
  rw [hf, hE]
  exact Br.mk (fun _ => ⟨rfl, r, sl, its, h1, rfl, Turned.of_ext x01⟩) (fun h => by simp at h)
 ·have hE : flE D (obs its) p = (((saveE D y.ob).1, (obs its).set k (saveE D y.ob).2.1), (saveE D y.ob).2.2) := by
   unfold flE
   rw [first_ob, hf, if_pos omm, ali30, obs_at hk]
  rw [hf, hE]
  refine Br.mk (fun h => by simp at h; omega) (fun _ => ?_)
  obtain ⟨a1, a2⟩ := h1.at hk
  refine ⟨sl, h1.rt.at 3 rfl, a1, _, a2, (save_spec h1 hW hk).mono ?_⟩
  rintro e w8 ⟨rfl, r', y', h8, hob8, t8⟩
  have z8 := t8.mod.size
  exact ⟨_, rfl, t8.mod.same _ omm bx, rfl, r', sl, _, h8, obs_put hob8, (Turned.of_ext x01).trans t8⟩
set_option maxRecDepth 100000 in
theorem Crash_spec {w : World} {t st d : Nat} {r : Dm} {sl : Sl} {D : Dk} {seed limit : Int} {its : List It} (h : TO w t st d r sl D seed limit its) (hW : D.l.length ≤ 1000000) (hL : lenB D.l ≤ 1099511627776) (keep : Int) :
  Cal 183 #[t, keep] w fun e w' => e = Value.int .i64 (crashD D keep).2 ∧ LdRes w t st d r sl seed limit its ((crashD D keep).1, []) w' := by
 apply table_Table_Crash.vc
 obtain ⟨p1, p2⟩ := h.rt.put1 (j := 3) (v := .slice none 0 0) smm rfl
 refine ⟨⟨rfl, p1⟩, fun w0 e0 => ?_⟩
 obtain ⟨q1, q2⟩ := p2 w0 e0
 have hs0 : SO w0 st d r D := h.so.keep q2 (fun hr hτ => by rcases hτ with rfl | rfl | rfl | rfl <;> exact hr.ne h.rt dcc) (fun hm e => h.rt.ne_map hm e.symm)
 refine ⟨_, q1.at 0 rfl, nnS (nnS (nnS ⟨_, hs0.ptr, (dCrash_spec hs0.dk omm hL keep).mono ?_⟩))⟩
 rintro e w3 ⟨rfl, r', h3, m3, f3⟩
 have offd : ∀ {j : Nat} {cs : LV} {τ : TypeId}, Row w0 j cs τ → τ ≠ tDisk → ¬ (j = d ∨ j = r.r) := fun hr ht e => by
  rcases e with e | e
  ·exact hr.ne hs0.dk.rd ht e
  ·exact hr.ne_map hs0.dk.rm e
 refine ⟨_, rfl, rfl, r', ⟨none, 0, 0⟩, [], ⟨m3.row q1 (offd q1 dcc), ⟨m3.row hs0.rs (offd hs0.rs dcc), h3⟩, OwnK.nil, (fun y hy => by cases hy), by simp, by simp, h.lim, by simp; have := h.lim; omega⟩, rfl, ?_, ?_⟩
 ·refine (q2.mono fun i _ hi => .inl hi).trans (m3.mono fun i _ hi => ?_)
  rcases hi with e | e
  ·exact .inr (.inr (.inl e))
  ·exact .inr (.inr (.inr (.inl (.inl e))))
 ·have z0 := q2.size
  rintro i (e | e | e | e | e | ⟨y, hy, -⟩)
  ·exact .inl (.inl e)
  ·exact .inl (.inr (.inl e))
  ·exact .inl (.inr (.inr (.inl e)))
  ·rcases f3 i (.inr e) with q | q
   ·rcases q with q | q
    ·exact .inl (.inr (.inr (.inl q)))
    ·exact .inl (.inr (.inr (.inr (.inl q))))
   ·exact .inr omm
  ·cases e
  ·cases hy
theorem Kept_spec {w : World} {t st d : Nat} {r : Dm} {sl : Sl} {D : Dk} {seed limit : Int} {its : List It} (h : TO w t st d r sl D seed limit its) (hW : D.l.length ≤ 1000000) :
  Cal 184 #[t] w fun e w' => ∃ s : Sl, e = Value.tuple #[s, .bool (ldS D 0).2.2] ∧ RdY w' s (ldS D 0).1 ∧ Bys (ldS D 0).1 ∧ (ldS D 0).1.length ≤ 1048576 ∧ s.n ≤ s.c ∧ (∀ g, s.blk = some g → w.heap.size ≤ g) ∧ Ext w w' := by
 apply table_Table_Kept.vc
 refine ⟨_, h.rt.at 0 rfl, (stLoad_spec h.so omm 0).mono ?_⟩
 rintro e w1 ⟨s, rfl, hs, hb, hl, hc, hf, x1⟩
 exact ⟨s, _, _, rfl, s, rfl, hs, hb, hl, hc, hf, x1⟩
theorem tFail_spec {w : World} {t st d : Nat} {r : Dm} {sl : Sl} {D : Dk} {seed limit : Int} {its : List It} (h : TO w t st d r sl D seed limit its) {n : Int} (hn : inI n) :
  Cal 122 #[d, n] w fun e w' => e = tqq ∧ LdRes w t st d r sl seed limit its (failD D n, obs its) w' := by
 refine (dFail_spec h.so.dk hn).mono ?_
 rintro e w1 ⟨rfl, h1, m1⟩
 have m1' : Mod (fun i => i = d ∨ r.ls.blk = some i) w w1 := m1.mono fun i _ hi => .inl hi
 exact ⟨rfl, r, sl, its, h.store m1' ⟨m1'.row h.so.rs h.so.off, h1⟩, rfl, m1'.mono fun i _ hi => dF_foot i hi, fun i hi => .inl hi⟩
theorem loadL1 {w : World} {p : Option Addr} {v : Value} (h : ld w p = some v) : LoadL w p 0 [v] := by
 show ld w (padd p 0) = _
 rw [padd_zero]; exact h
theorem TO.put2 {w w' : World} {t st d : Nat} {r : Dm} {sl : Sl} {D : Dk} {seed limit : Int} {its : List It} (h : TO w t st d r sl D seed limit its) {i : Nat} {y y' : It} (hi : its[i]? = some y) (hx : y'.x = y.x) (hg : y'.g = y.g) (hm : Mod (fun j => j = y.x ∨ j = y.g) w w') (hy : ItIs w' y') : TO w' t st d r sl D seed limit (its.set i y') := by
 have hil := (ali03.1 hi).1
 have hr := (h.it y (ali00 hi)).r
 have hrg := (h.it y (ali00 hi)).k.row
 have off : ∀ {j : Nat} {cs : LV} {τ : TypeId}, Row w j cs τ → τ ≠ tItem → τ ≠ tChunk → ¬ (j = y.x ∨ j = y.g) := fun hr' ht hc e => by
  rcases e with e | e
  ·exact hr'.ne hr ht e
  ·exact hr'.ne hrg hc e
 have hpx : ptrs (its.set i y') = ptrs its := by
  unfold ptrs
  rw [alj36, hx]
  apply ali20
  intro j
  rw [ali33]
  split
  ·rename_i e; subst e
   rw [if_pos (by rw [ali01]; exact hil), ali02, hi]; rfl
  ·rfl
 have hmx : (its.set i y').map (·.x) = its.map (·.x) := by
  rw [alj36, hx]
  apply ali20
  intro j
  rw [ali33]
  split
  ·rename_i e; subst e
   rw [if_pos (by rw [ali01]; exact hil), ali02, hi]; rfl
  ·rfl
 have hmg : (its.set i y').map (·.g) = its.map (·.g) := by
  rw [alj36, hg]
  apply ali20
  intro j
  rw [ali33]
  split
  ·rename_i e; subst e
   rw [if_pos (by rw [ali01]; exact hil), ali02, hi]; rfl
  ·rfl
 refine ⟨hm.row h.rt (off h.rt dcc dcc), h.so.keep hm (fun hr' hτ => by rcases hτ with rfl | rfl | rfl | rfl <;> exact off hr' dcc dcc) (fun hmp e => by
   rcases e with e | e
   ·exact hr.ne_map hmp e.symm
   ·exact hrg.ne_map hmp e.symm), ?_, fun z hz => ?_, by rw [hmx]; exact h.dx, by rw [hmg]; exact h.dg, h.lim, by rw [ali31]; exact h.len⟩
 ·rw [hpx]
  exact hm.ownK h.ol fun b hb => by
   obtain ⟨cs', hr'⟩ := own_row h.ol dcc hb
   exact off hr' dcc dcc
 ·obtain ⟨j, hj⟩ := alj26 hz
  rw [ali33] at hj
  split at hj
  ·cases hj; exact hy
  ·rename_i hne
   have hzj := h.it z (ali00 hj)
   have hjl := (ali03.1 hj).1
   refine hzj.keep hm ?_ ?_ (fun b hb => ?_)
   ·rintro (e | e)
    ·have h1 : (its.map (·.x))[i]? = some y.x := by rw [ali02, hi]; rfl
     have h2 : (its.map (·.x))[j]? = some z.x := by rw [ali02, hj]; rfl
     rw [e, ← h1] at h2
     exact hne ((List.getElem?_inj (by rw [ali01]; exact hjl) h.dx).1 h2).symm
    ·exact hzj.r.ne hrg dcc e
   ·rintro (e | e)
    ·exact hzj.k.row.ne hr dcc e
    ·have h1 : (its.map (·.g))[i]? = some y.g := by rw [ali02, hi]; rfl
     have h2 : (its.map (·.g))[j]? = some z.g := by rw [ali02, hj]; rfl
     rw [e, ← h1] at h2
     exact hne ((List.getElem?_inj (by rw [ali01]; exact hjl) h.dg).1 h2).symm
   ·obtain ⟨cs', hr'⟩ := own_row hzj.k.own dcc hb
    exact off hr' dcc dcc
theorem foot_put2 {t st d : Nat} {r : Dm} {sl : Sl} {its : List It} {i n : Nat} {y y' : It} (hi : its[i]? = some y) (hx : y'.x = y.x) (hg : y'.g = y.g) (hs : ∀ b, y'.s.blk = some b → y.s.blk = some b ∨ n ≤ b) : ∀ j, foot t st d r sl (its.set i y') j → foot t st d r sl its j ∨ n ≤ j := by
 rintro j (e | e | e | e | e | ⟨z, hz, e⟩)
 ·exact .inl (.inl e)
 ·exact .inl (.inr (.inl e))
 ·exact .inl (.inr (.inr (.inl e)))
 ·exact .inl (.inr (.inr (.inr (.inl e))))
 ·exact .inl (.inr (.inr (.inr (.inr (.inl e)))))
 ·have hy : ∀ i, (i = y.x ∨ i = y.g ∨ y.s.blk = some i) → foot t st d r sl its i := fun i e => .inr (.inr (.inr (.inr (.inr ⟨y, ali00 hi, e⟩))))
  rcases ali14 hz with hz | hz
  ·exact .inl (.inr (.inr (.inr (.inr (.inr ⟨z, hz, e⟩)))))
  ·subst hz
   rw [hx, hg] at e
   rcases e with e | e | e
   ·exact .inl (hy j (.inl e))
   ·exact .inl (hy j (.inr (.inl e)))
   ·rcases hs j e with e | e
    ·exact .inl (hy j (.inr (.inr e)))
    ·exact .inr e
instance (c : Ce) : Decidable (inY c) := by unfold inY; exact inferInstance
def atE (l : List En) (c : Ce) : Int :=
 if firstI (fun e : En => e.1 == pos c) l < 0 then -1 else if c.2.1 < 0 then 1 else ((l[(firstI (fun e : En => e.1 == pos c) l).toNat]?).map fun e => kAt e.1 e.2.1 c).getD 0
def setE (l : List En) (c : Ce) (b : Int) : List En × Int :=
 if firstI (fun e : En => e.1 == pos c) l < 0 then (l, 11) else if ¬ inY c then (l, 5) else if bMay b = false then (l, 1) else
  (l.eraseIdx (firstI (fun e : En => e.1 == pos c) l).toNat ++ ((l[(firstI (fun e : En => e.1 == pos c) l).toNat]?).map fun e => (e.1, (kSet e.1 e.2.1 c b).1, e.2.2.1 || (kAt e.1 e.2.1 c != b), e.2.2.2)).toList, 0)
theorem tAt_spec {w : World} {t st d : Nat} {r : Dm} {sl : Sl} {D : Dk} {seed limit : Int} {its : List It} (h : TO w t st d r sl D seed limit its) (c : Ce) (hc : okC c) :
  Cal 113 #[t, cev c] w fun e w' => e = Value.int .i64 (atE (obs its) c) ∧ Ext w w' := by
 apply table_Table_At.vc
 intro w0 e0
 have z0 := hs1 e0
 have x0 := eaa e0
 refine (cChunk_spec c hc w0).mono ?_
 rintro e w1 ⟨rfl, x1⟩
 have x01 := x0.tr x1
 have z1 := x1.size
 refine ⟨_, _, rfl, x1.heap omm, (find_spec (h.ext x01) (pos c)).mono ?_⟩
 rintro e w4 ⟨rfl, x4⟩
 have z4 := x4.size
 have x04 := x01.tr x4
 have hfm : firstI (fun e : En => e.1 == pos c) (obs its) = firstI (fun i : It => i.p == pos c) its := firstI_map It.ob _ its
 refine ⟨_, rfl, x4.heap omm, ?_⟩
 rcases firstI_cases (fun i : It => i.p == pos c) its with ⟨hf, -⟩ | ⟨k, y, hk, hyp, hf, -⟩
 ·rw [hf]
  refine Br.mk (fun _ => ⟨?_, x04⟩) (fun h => by simp at h)
  unfold atE
  rw [hfm, hf, if_pos dcc]
 ·rw [hf]
  refine Br.mk (fun h => by simp at h; omega) (fun _ => Br.mk (fun hb => ?_) (fun hb => ?_))
  ·replace hb := q0T hb
   refine ⟨?_, x04⟩
   unfold atE
   rw [hfm, hf, if_neg omm, if_pos hb]
  ·replace hb := q0F hb
   have hd := (h.ext x04).ext (Ext.dr w4)
   obtain ⟨a1, a2⟩ := hd.at hk
   have hyr := hd.it y (ali00 hk)
   refine ⟨sl, hd.rt.at 3 rfl, a1, _, a2, nnS (nnS ⟨_, hyr.r.at 0 rfl, (At_spec hyr.k c hc).mono ?_⟩)⟩
   rintro e w9 ⟨rfl, x9⟩
   have h9 := hd.ext x9
   obtain ⟨-, b2⟩ := h9.at hk
   refine ⟨_, _, rfl, x9.heap (show w.heap.size < w4 by omega), loadL1 b2, loadL1 (h9.rt.at 3 rfl), ?_, x04.tr ((Ext.dr _).tr x9)⟩
   unfold atE
   rw [hfm, hf, if_neg omm, if_neg hb, ali30, ali02, hk]; rfl
theorem kSet_in {p : Po} {C : List Int} {c : Ce} {b : Int} (hp : p = pos c) (hy : inY c) (hb : bMay b = true) : (kSet p C c b).2 = 0 := by
 unfold kSet
 rw [if_neg (by rw [(inK_iff p c).2 ⟨hy, hp.symm⟩]; decide), if_neg (by rw [hb]; decide)]
theorem tSet_spec {w : World} {t st d : Nat} {r : Dm} {sl : Sl} {D : Dk} {seed limit : Int} {its : List It} (h : TO w t st d r sl D seed limit its) (c : Ce) (hc : okC c) (b : Int) :
  Cal 307 #[t, cev c, .int .i64 b] w fun e w' => e = Value.int .i64 (setE (obs its) c b).2 ∧ LdRes w t st d r sl seed limit its (D, (setE (obs its) c b).1) w' := by
 apply table_Table_Set.vc
 intro w0 e0
 have z0 := hs1 e0
 have x0 := eaa e0
 refine (cChunk_spec c hc w0).mono ?_
 rintro e w1 ⟨rfl, x1⟩
 have x01 := x0.tr x1
 have z1 := x1.size
 refine ⟨_, _, rfl, x1.heap omm, (find_spec (h.ext x01) (pos c)).mono ?_⟩
 rintro e w4 ⟨rfl, x4⟩
 have z4 := x4.size
 have x04 := x01.tr x4
 have hfm : firstI (fun e : En => e.1 == pos c) (obs its) = firstI (fun i : It => i.p == pos c) its := firstI_map It.ob _ its
 refine ⟨_, rfl, x4.heap omm, (cIndex_spec c w4).mono ?_⟩
 rintro e w6 ⟨⟨ix, iy, rfl, hiy⟩, x6⟩
 have z6 := x6.size
 have x06 := x04.tr x6
 have h6 := h.ext x06
 refine ⟨_, _, rfl, x6.heap omm, ?_⟩
 have same : ∀ {w'}, Ext w w' → LdRes w t st d r sl seed limit its (D, obs its) w' := fun x => ⟨r, sl, its, h.ext x, rfl, Turned.of_ext x⟩
 rcases firstI_cases (fun i : It => i.p == pos c) its with ⟨hf, -⟩ | ⟨k, y, hk, hyp, hf, -⟩
 ·rw [hf]
  refine Br.mk (fun _ => ?_) (fun h => by simp at h)
  have e : setE (obs its) c b = (obs its, 11) := by unfold setE; rw [hfm, hf, if_pos dcc]
  rw [e]
  exact ⟨rfl, same x06⟩
 ·rw [hf]
  have hyc : y.p = pos c := by simpa using hyp
  refine Br.mk (fun h => by simp at h; omega) (fun _ => ?_)
  rcases hiy with ⟨rfl, hY, -⟩ | ⟨rfl, hY, -⟩
  ·refine nope rfl ((block_May_spec b w6).mono ?_)
   rintro e w9 ⟨rfl, x9⟩
   have z9 := x9.size
   have x09 := x06.tr x9
   refine ⟨_, rfl, x9.heap omm, Br.mk (fun hb => ?_) (fun hb => ?_)⟩
   ·have hb' : bMay b = false := by simpa using hb
    have e : setE (obs its) c b = (obs its, 1) := by unfold setE; rw [hfm, hf, if_neg omm, if_neg (by simpa using hY), if_pos hb']
    rw [e]
    exact ⟨rfl, same x09⟩
   ·have hb' : bMay b = true := by simpa using hb
    have he : setE (obs its) c b = ((obs its).eraseIdx k ++ [(y.p, (kSet y.p y.C c b).1, y.dirty || (kAt y.p y.C c != b), y.pins)], 0) := by
     unfold setE
     rw [hfm, hf, if_neg omm, if_neg (by simpa using hY), if_neg (by rw [hb']; decide), ali30, ali02, hk]; rfl
    have h0 := kSet_in (C := y.C) hyc hY hb'
    rw [he]
    have h9 := h.ext x09
    refine (touch_spec h9 hk).mono ?_
    rintro e w11 ⟨rfl, sl11, h11, t11⟩
    have t011 := (Turned.of_ext x09).trans t11
    have z11 := t11.mod.size
    have bx : ∀ {F : Nat → Prop}, (∀ i, F i → foot t st d r sl its i) → ¬ F w := fun hF hf => by have := h.lt (hF _ hf); omega
    have hi' : (its.eraseIdx k ++ [y])[(its.eraseIdx k).length]? = some y := by rw [ali19 (ali34 _), Nat.sub_self]; rfl
    have hd := h11.ext (Ext.dr w11)
    have hyd := hd.it y (ali00 hi')
    have hxw : y.x < w := (h.it y (ali00 hk)).r.lt
    have hgw : y.g < w := (h.it y (ali00 hk)).k.row.lt
    refine ⟨_, rfl, t11.mod.same _ omm (bx fun i hi => hi), nnS (nnS ⟨_, hyd.r.at 0 rfl, (At_spec hyd.k c hc).mono ?_⟩)⟩
    rintro e w14 ⟨rfl, x14⟩
    have x1114 : Ext w11 w14 := (Ext.dr _).tr x14
    have z14 := x1114.size
    have h14 := h11.ext x1114
    have hy14 := h14.it y (ali00 hi')
    have pt : ∀ v : Bool, _ := fun v => hy14.r.put1 (j := 1) (v := .bool v) smm rfl
    refine ⟨_, _, rfl, x14.heap (show w.heap.size < w11 by omega), nnS (nnS ⟨_, hy14.r.at 1 rfl, Br.mk (fun hb => nnS (nnS ⟨⟨rfl, (pt true).1⟩, fun e => ?_, fun w18 e18 => nnS (nnS ?_)⟩)) (fun hb => nnS (nnS ⟨⟨rfl, (pt true).1⟩, fun e => ?_, fun w18 e18 => nnS (nnS ?_)⟩))⟩)⟩
    case refine_1 | refine_3 =>
     rw [pblk_padd] at e
     have : y.x = w.heap.size := by simpa [pblk] using e
     omega
    all_goals
     obtain ⟨q1, q2⟩ := (pt _).2 w18 e18
     have z18 := q2.size
     have hk18 : KIs w18 y.g y.s y.p y.C := hy14.k.keep q2 (fun e => hy14.k.row.ne hy14.r dcc e) (fun b hb => by
      obtain ⟨cs', hr'⟩ := own_row hy14.k.own dcc hb
      exact hr'.ne hy14.r dcc)
     refine ⟨_, (q1.ext (Ext.dr _)).at 0 rfl, (Set_spec (hk18.ext (Ext.dr w18)) c hc b).mono ?_⟩
     rintro e w20 ⟨rfl, s', hk20, m20, b20⟩
     have q1d := q1.ext (Ext.dr w18)
     refine ⟨_, rfl, m20.same _ (show w.heap.size < w18 by omega) (fun e => by omega), congrArg _ (congrArg _ h0), ?_⟩
     have hm : Mod (fun j => j = y.x ∨ j = y.g) w14 w20 := ((q2.mono fun i _ hi => .inl hi).trans (Mod.of_ext (Ext.dr _))).trans (m20.mono fun i _ hi => .inr hi)
     have hy20 : ItIs w20 ⟨y.x, y.g, s', y.p, (kSet y.p y.C c b).1, y.dirty || (kAt y.p y.C c != b), y.pins⟩ := by
      refine ⟨?_, hk20⟩
      have := m20.row q1d (fun e => q1d.ne (hk18.ext (Ext.dr w18)).row dcc e)
      rw [hb]
      exact this
     have h20 := h14.put2 hi' (y' := ⟨y.x, y.g, s', y.p, (kSet y.p y.C c b).1, y.dirty || (kAt y.p y.C c != b), y.pins⟩) rfl rfl hm hy20
     refine ⟨r, sl11, _, h20, ?_, t011.trans ⟨(Mod.of_ext x1114).trans (hm.mono fun i _ hi => ?_), fun j hj => ?_⟩⟩
     ·unfold obs
      rw [List.set_append_right _ _ (ali34 _), Nat.sub_self, ali08]
      have := obs_erase its k
      unfold obs at this
      rw [this]; rfl
     ·exact .inr (.inr (.inr (.inr (.inr ⟨y, ali00 hi', hi.elim .inl fun e => .inr (.inl e)⟩))))
     ·exact foot_put2 (y' := ⟨y.x, y.g, s', y.p, (kSet y.p y.C c b).1, y.dirty || (kAt y.p y.C c != b), y.pins⟩) hi' rfl rfl (fun b hb => (b20 b hb).imp id fun e => ali41 (ali41 z14 z18) e) j hj
  ·have e : setE (obs its) c b = (obs its, 5) := by unfold setE; rw [hfm, hf, if_neg omm, if_pos hY]
   refine yes rfl ?_
   rw [e]
   exact ⟨rfl, same x06⟩
end Go.Proofs.YtjcnjlaelhdjeaaGreatDoor
namespace Go.Proofs.YtjcnjlaelhdjeaaGreatDoor
open Go Go.Vc Go.RowKit Go.Proofs Go.Chk Go.Runs Go.Code
def goodL (l : List En) : Prop := ∀ e ∈ l, e.2.1.length = 8192 ∧ ∀ b ∈ e.2.1, bMay b = true
theorem same_cell {c d : Ce} (hc : inY c) (hd : inY d) (hp : pos c = pos d) (hi : (idx c).toNat = (idx d).toNat) : c = d := by
 have h1 := idx_in hc
 have h2 := idx_in hd
 have hi' : idx c = idx d := by omega
 obtain ⟨a, b, e⟩ := c
 obtain ⟨a', b', e'⟩ := d
 unfold idx at hi'
 unfold pos at hp
 simp only [Prod.mk.injEq] at hp ⊢
 simp only at hi'
 omega
def here1 (l : List En) (p : Po) : Prop := ∃ e ∈ l, e.1 = p
def nodL (l : List En) : Prop := (l.map (·.1)).Nodup
theorem at_none {l : List En} {c : Ce} (h : ¬ here1 l (pos c)) : atE l c = -1 := by
 unfold atE
 rw [firstI_none fun y hy => ?_, if_pos dcc]
 cases hb : (y.1 == pos c) with
 | false => rfl
 | true => exact absurd ⟨y, hy, by simpa using hb⟩ h
theorem first_here {l : List En} (hn : nodL l) {e : En} (he : e ∈ l) : ∃ k : Nat, l[k]? = some e ∧ firstI (fun x : En => x.1 == e.1) l = k := by
 obtain ⟨k, hk⟩ := alj26 he
 refine ⟨k, hk, firstI_at hk smm fun j hj y hy => ?_⟩
 cases hb : (y.1 == e.1) with
 | false => rfl
 | true =>
   have h1 : (l.map (·.1))[k]? = some e.1 := by rw [ali02, hk]; rfl
   have h2 : (l.map (·.1))[j]? = some e.1 := by rw [ali02, hy]; simpa using hb
   have hkl := (ali03.1 h1).1
   have := (List.getElem?_inj (show j < _ by omega) hn).1 (h2.trans h1.symm)
   omega
theorem at_here {l : List En} (hn : nodL l) {e : En} (he : e ∈ l) {c : Ce} (hp : e.1 = pos c) : atE l c = if c.2.1 < 0 then 1 else kAt e.1 e.2.1 c := by
 obtain ⟨k, hk, hf⟩ := first_here hn he
 unfold atE
 rw [← hp, hf, if_neg omm, ali30, hk]; rfl
theorem kAt_kSet {p : Po} {C : List Int} (hl : C.length = 8192) {c : Ce} (hy : inY c) (hp : p = pos c) {b : Int} (hb : bMay b = true) (c' : Ce) (hp' : p = pos c') : kAt p (kSet p C c b).1 c' = if c' = c then b else kAt p C c' := by
 have e : (kSet p C c b).1 = C.set (idx c).toNat b := by
  unfold kSet
  rw [if_neg (by rw [(inK_iff p c).2 ⟨hy, hp.symm⟩]; decide), if_neg (by rw [hb]; decide)]
 rw [e]
 have hi := idx_in hy
 by_cases hcc : c' = c
 ·subst hcc
  rw [if_pos rfl]
  have hk : inK p c' = true := (inK_iff p c').2 ⟨hy, hp'.symm⟩
  unfold kAt
  rw [hk, if_pos rfl]
  unfold atC
  rw [if_neg omm, ali05, ali33, if_pos rfl, if_pos omm]; rfl
 ·rw [if_neg hcc]
  by_cases hy' : inY c'
  ·have hk : inK p c' = true := (inK_iff p c').2 ⟨hy', hp'.symm⟩
   have hi' := idx_in hy'
   have h0 : ¬ idx c' < 0 := by omega
   unfold kAt
   rw [hk, if_pos rfl, if_pos rfl]
   unfold atC
   rw [if_neg h0, if_neg h0, ali05, ali05, ali33, if_neg (fun h => hcc (same_cell hy hy' (hp.symm.trans hp') h).symm)]
  ·have hk : inK p c' = false := by
    cases h : inK p c' with
    | false => rfl
    | true => exact absurd ((inK_iff p c').1 h).1 hy'
   unfold kAt
   rw [hk, if_neg dcc, if_neg dcc]
theorem set_here {l : List En} (hn : nodL l) (hg : goodL l) {c : Ce} (hh : here1 l (pos c)) (hy : inY c) {b : Int} (hb : bMay b = true) :
  (setE l c b).2 = 0 ∧ nodL (setE l c b).1 ∧ (∀ p, here1 (setE l c b).1 p ↔ here1 l p) ∧ ∀ c', atE (setE l c b).1 c' = if c' = c then b else atE l c' := by
 obtain ⟨e, he, hp⟩ := hh
 obtain ⟨k, hk, hf⟩ := first_here hn he
 have hs : setE l c b = (l.eraseIdx k ++ [(e.1, (kSet e.1 e.2.1 c b).1, e.2.2.1 || (kAt e.1 e.2.1 c != b), e.2.2.2)], 0) := by
  unfold setE
  rw [← hp, hf, if_neg omm, if_neg (by simpa using hy), if_neg (by rw [hb]; decide), ali30, hk]; rfl
 generalize hd : (e.2.2.1 || (kAt e.1 e.2.1 c != b)) = d at hs
 obtain ⟨A, B, hl2, hkA⟩ : ∃ A B, l = A ++ e :: B ∧ k = A.length := by
  obtain ⟨hkl, he⟩ := ali03.1 hk
  exact ⟨l.take k, l.drop (k + 1), by rw [← he, ← alj11 hkl, alj52], by rw [ali12]; omega⟩
 subst hkA
 rw [hl2, List.eraseIdx_append_of_length_le (ali34 _), Nat.sub_self] at hs
 have hs1 : setE l c b = (A ++ B ++ [(e.1, (kSet e.1 e.2.1 c b).1, d, e.2.2.2)], 0) := by rw [hl2]; exact hs
 rw [hs1]
 have hmem : ∀ x, x ∈ l ↔ x ∈ A ++ B ∨ x = e := fun x => by
  rw [hl2]
  simp only [ali25, ali16]
  constructor
  ·rintro (h | h | h)
   ·exact .inl (.inl h)
   ·exact .inr h
   ·exact .inl (.inr h)
  ·rintro ((h | h) | h)
   ·exact .inl h
   ·exact .inr (.inr h)
   ·exact .inr (.inl h)
 have hn' : nodL (A ++ B ++ [(e.1, (kSet e.1 e.2.1 c b).1, d, e.2.2.2)]) := by
  have hnl : nodL (A ++ e :: B) := by rw [← hl2]; exact hn
  unfold nodL at hnl ⊢
  rw [ali08, ali17] at hnl
  obtain ⟨n1, n2, n3⟩ := alj47.1 hnl
  obtain ⟨n4, n5⟩ := alj48.1 n2
  rw [ali08, ali08]
  refine alj47.2 ⟨alj47.2 ⟨n1, n5, fun a ha b hb => n3 a ha b (.tail _ hb)⟩, by simp, fun a ha b hb => ?_⟩
  simp only [ali17, List.map_nil, alj46] at hb
  subst hb
  rcases ali25.1 ha with ha | ha
  ·exact n3 a ha _ (.head _)
  ·exact fun h => n4 (h ▸ ha)
 have hone : ∀ x ∈ A ++ B, x.1 ≠ e.1 := fun x hx h => by
  have hnl : nodL (A ++ e :: B) := by rw [← hl2]; exact hn
  unfold nodL at hnl
  rw [ali08, ali17] at hnl
  obtain ⟨n1, n2, n3⟩ := alj47.1 hnl
  obtain ⟨n4, n5⟩ := alj48.1 n2
  rcases ali25.1 hx with hx | hx
  ·exact n3 _ (ali06.2 ⟨x, hx, rfl⟩) _ (.head _) h
  ·exact n4 (by rw [← h]; exact ali06.2 ⟨x, hx, rfl⟩)
 refine ⟨rfl, hn', fun p => ⟨?_, ?_⟩, fun c' => ?_⟩
 ·rintro ⟨x, hx, hxp⟩
  rcases ali25.1 hx with hx | hx
  ·exact ⟨x, (hmem x).2 (.inl hx), hxp⟩
  ·simp only [alj46] at hx
   subst hx
   exact ⟨e, he, hxp⟩
 ·rintro ⟨x, hx, hxp⟩
  rcases (hmem x).1 hx with hx | hx
  ·exact ⟨x, alj37 _ hx, hxp⟩
  ·subst hx
   exact ⟨_, alj38 _ (.head _), hxp⟩
 ·show atE (A ++ B ++ [(e.1, (kSet e.1 e.2.1 c b).1, d, e.2.2.2)]) c' = _
  by_cases hpc : e.1 = pos c'
  ·rw [at_here hn' (alj38 _ (.head _)) (e := (e.1, (kSet e.1 e.2.1 c b).1, d, e.2.2.2)) hpc, at_here hn he hpc]
   show (if c'.2.1 < 0 then 1 else kAt e.1 (kSet e.1 e.2.1 c b).1 c') = _
   rw [kAt_kSet (hg e he).1 hy hp hb c' hpc]
   by_cases hcc : c' = c
   ·subst hcc
    rw [if_pos rfl, if_pos rfl, if_neg (by unfold inY at hy; omega)]
   ·rw [if_neg hcc, if_neg hcc]
  ·have hcc : c' ≠ c := fun h => hpc (by rw [h]; exact hp)
   rw [if_neg hcc]
   by_cases hx : ∃ x ∈ A ++ B, x.1 = pos c'
   ·obtain ⟨x, hx, hxp⟩ := hx
    rw [at_here hn' (alj37 _ hx) hxp, at_here hn ((hmem x).2 (.inl hx)) hxp]
   ·rw [at_none, at_none]
    ·rintro ⟨x, hx2, hxp⟩
     rcases (hmem x).1 hx2 with h | h
     ·exact hx ⟨x, h, hxp⟩
     ·subst h; exact hpc hxp
    ·rintro ⟨x, hx2, hxp⟩
     rcases ali25.1 hx2 with h | h
     ·exact hx ⟨x, h, hxp⟩
     ·simp only [alj46] at h
      subst h; exact hpc hxp
def TF (F : Nat → Prop) (w : World) (t : Nat) (seed limit : Int) (T : Tb) : Prop :=
 ∃ st d r sl its, TO w t st d r sl T.1 seed limit its ∧ obs its = T.2 ∧ F = foot t st d r sl its
theorem TF.lt {F : Nat → Prop} {w : World} {t : Nat} {seed limit : Int} {T : Tb} (h : TF F w t seed limit T) {i : Nat} (hi : F i) : i < w := by
 obtain ⟨st, d, r, sl, its, h1, h2, rfl⟩ := h
 exact h1.lt hi
theorem TF.same {F : Nat → Prop} {w w' : World} {t : Nat} {seed limit : Int} {T : Tb} (h : TF F w t seed limit T) (hs : ∀ i, F i → w'.heap[i]? = w.heap[i]?) : TF F w' t seed limit T := by
 obtain ⟨st, d, r, sl, its, h1, h2, rfl⟩ := h
 exact ⟨st, d, r, sl, its, h1.same hs, h2, rfl⟩
theorem TF.ext {F : Nat → Prop} {w w' : World} {t : Nat} {seed limit : Int} {T : Tb} (h : TF F w t seed limit T) (x : Ext w w') : TF F w' t seed limit T := h.same fun _ hi => x.heap (h.lt hi)
theorem TF.keep {F G : Nat → Prop} {w w' : World} {t : Nat} {seed limit : Int} {T : Tb} (h : TF F w t seed limit T) (hm : Mod G w w') (hn : ∀ i, F i → ¬ G i) : TF F w' t seed limit T := h.same fun i hi => hm.same i (h.lt hi) (hn i hi)
abbrev offT (τ : TypeId) : Prop := τ ≠ tTable ∧ τ ≠ tStore ∧ τ ≠ tDisk ∧ τ ≠ tPI ∧ τ ≠ tItem ∧ τ ≠ tChunk ∧ τ ≠ tRun ∧ τ ≠ tW ∧ τ ≠ tByte
theorem TF.no_row {F : Nat → Prop} {w : World} {t : Nat} {seed limit : Int} {T : Tb} (h : TF F w t seed limit T) {j : Nat} {cs : LV} {τ : TypeId} (hr : Row w j cs τ) (hτ : offT τ) : ¬ F j := by
 obtain ⟨st, d, r, sl, its, h1, h2, rfl⟩ := h
 exact h1.no_row hr hτ
abbrev TRes (F : Nat → Prop) (w : World) (t : Nat) (seed limit : Int) (T : Tb) (w' : World) : Prop := ∃ F', TF F' w' t seed limit T ∧ Turned F F' w w'
theorem tf_of {w w' : World} {t st d : Nat} {r : Dm} {sl : Sl} {seed limit : Int} {its : List It} {T : Tb} (hl : LdRes w t st d r sl seed limit its T w') : TRes (foot t st d r sl its) w t seed limit T w' := by
 obtain ⟨r', sl', its', h', ho, ht⟩ := hl
 exact ⟨_, ⟨st, d, r', sl', its', h', ho, rfl⟩, ht⟩
theorem tfNew_spec (seed limit room : Int) (w : World) : Cal 176 #[seed, limit, room] w fun e w' => ∃ t F, e = Value.pointer (pzq t) ∧ TF F w' t seed (min (max limit 1) 16) (dk0 room, []) ∧ Ext w w' ∧ ∀ i, F i → w.heap.size ≤ i := by
 refine (tNew_spec seed limit room w).mono ?_
 rintro e w' ⟨t, st, d, r, rfl, h, x, hf⟩
 exact ⟨t, _, rfl, ⟨st, d, r, _, [], h, rfl, rfl⟩, x, hf⟩
section
variable {F : Nat → Prop} {w : World} {t : Nat} {seed limit : Int} {T : Tb}
theorem tfLoad_spec (h : TF F w t seed limit T) (hW : T.1.l.length ≤ 1000000) (p : Po) :
  Cal 88 #[t, pv p] w fun e w' => e = Value.int .i64 (ldE seed limit T.1 T.2 p).2 ∧ TRes F w t seed limit (ldE seed limit T.1 T.2 p).1 w' := by
 obtain ⟨st, d, r, sl, its, h1, e, rfl⟩ := h
 rw [← e]
 refine (Load_spec h1 hW p).mono ?_
 rintro e w' ⟨rfl, hl⟩
 exact ⟨rfl, tf_of hl⟩
theorem tfFlush_spec (h : TF F w t seed limit T) (hW : T.1.l.length ≤ 1000000) (p : Po) :
  Cal 90 #[t, pv p] w fun e w' => e = Value.int .i64 (flE T.1 T.2 p).2 ∧ TRes F w t seed limit (flE T.1 T.2 p).1 w' := by
 obtain ⟨st, d, r, sl, its, h1, e, rfl⟩ := h
 rw [← e]
 refine (Flush_spec h1 hW p).mono ?_
 rintro e w' ⟨rfl, hl⟩
 exact ⟨rfl, tf_of hl⟩
theorem tfCrash_spec (h : TF F w t seed limit T) (hW : T.1.l.length ≤ 1000000) (hL : lenB T.1.l ≤ 1099511627776) (keep : Int) :
  Cal 183 #[t, keep] w fun e w' => e = Value.int .i64 (crashD T.1 keep).2 ∧ TRes F w t seed limit ((crashD T.1 keep).1, []) w' := by
 obtain ⟨st, d, r, sl, its, h1, e, rfl⟩ := h
 refine (Crash_spec h1 hW hL keep).mono ?_
 rintro e w' ⟨rfl, hl⟩
 exact ⟨rfl, tf_of hl⟩
theorem tfKept_spec (h : TF F w t seed limit T) (hW : T.1.l.length ≤ 1000000) :
  Cal 184 #[t] w fun e w' => ∃ s : Sl, e = Value.tuple #[s, .bool (ldS T.1 0).2.2] ∧ RdY w' s (ldS T.1 0).1 ∧ Bys (ldS T.1 0).1 ∧ (ldS T.1 0).1.length ≤ 1048576 ∧ s.n ≤ s.c ∧ (∀ g, s.blk = some g → w.heap.size ≤ g) ∧ Ext w w' := by
 obtain ⟨st, d, r, sl, its, h1, e, rfl⟩ := h
 exact Kept_spec h1 hW
theorem tfAt_spec (h : TF F w t seed limit T) (c : Ce) (hc : okC c) :
  Cal 113 #[t, cev c] w fun e w' => e = Value.int .i64 (atE T.2 c) ∧ Ext w w' := by
 obtain ⟨st, d, r, sl, its, h1, e, rfl⟩ := h
 rw [← e]
 exact tAt_spec h1 c hc
theorem tfSet_spec (h : TF F w t seed limit T) (c : Ce) (hc : okC c) (b : Int) :
  Cal 307 #[t, cev c, b] w fun e w' => e = Value.int .i64 (setE T.2 c b).2 ∧ TRes F w t seed limit (T.1, (setE T.2 c b).1) w' := by
 obtain ⟨st, d, r, sl, its, h1, e, rfl⟩ := h
 rw [← e]
 refine (tSet_spec h1 c hc b).mono ?_
 rintro e w' ⟨rfl, hl⟩
 exact ⟨rfl, tf_of hl⟩
theorem tfDisk (h : TF F w t seed limit T) : ∃ st d, ld w (padd (pzq t) 0) = some (.pointer (pzq st)) ∧ ld w (padd (padd (pzq st) 0) 0) = some (.pointer (pzq d)) ∧
  ∀ n, inI n → Cal 122 #[.pointer (pzq d), .int .i64 n] w fun e w' => e = tqq ∧ TRes F w t seed limit (failD T.1 n, T.2) w' := by
 obtain ⟨st, d, r, sl, its, h1, e, rfl⟩ := h
 rw [← e]
 refine ⟨st, d, h1.rt.at 0 rfl, h1.so.ptr, fun n hn => (tFail_spec h1 hn).mono ?_⟩
 rintro e w' ⟨rfl, hl⟩
 exact ⟨rfl, tf_of hl⟩
end
end Go.Proofs.YtjcnjlaelhdjeaaGreatDoor
namespace Go.Proofs.YtjcnjlaelhdjeaaGreatDoor
open Go Go.Vc Go.RowKit Go.Proofs Go.Chk Go.Runs Go.Code Go.Flw
def wideC (c : Ce) : Prop := (-2000000000 ≤ c.1 ∧ c.1 ≤ 2000000000) ∧ (-2000000000 ≤ c.2.1 ∧ c.2.1 ≤ 2000000000) ∧ -2000000000 ≤ c.2.2 ∧ c.2.2 ≤ 2000000000
theorem wideC.ok {c : Ce} (h : wideC c) : okC c := by unfold wideC at h; unfold okC inI; omega
theorem nb_ok {c : Ce} (h : wideC c) {n : Ce} (hn : n ∈ nbK c) : okC n := by
 unfold wideC at h
 unfold nbK lowK overK at hn
 simp only [ali16, ali36, or_false] at hn
 rcases hn with rfl | rfl | rfl | rfl | rfl | rfl <;> (unfold okC inI; simp only; omega)
theorem cut_spec (n : Int) (h : -2147483648 ≤ n ∧ n ≤ 2147483648) (w : World) : Cal 281 #[n] w fun e w' => e = n ∧ w' = w := by
 apply cell_cut.vc
 have e1 : (if (-2147483648) > n then (-2147483648) else n) = n := if_neg omm
 rw [e1, if_neg omm]
 exact ⟨rfl, rfl⟩
theorem Cut_spec (c : Ce) (h : (-2147483648 ≤ c.1 ∧ c.1 ≤ 2147483648) ∧ (-2147483648 ≤ c.2.1 ∧ c.2.1 ≤ 2147483648) ∧ -2147483648 ≤ c.2.2 ∧ c.2.2 ≤ 2147483648) (w : World) : Cal 280 #[cev c] w fun e w' => e = (cev c) ∧ Ext w w' := by
 apply cell_Cut.vc
 intro w0 e0 w1 e1
 have x1 : Ext w w1 := (eaa e0).of_alloc e1
 have z0 := hs1 e0
 have r0 : Row w1 w [c.1, c.2.1, c.2.2] tCe := (by rw [e0]; exact Row.new w [_, _, _] _ : Row w0 w _ _).ext (eaa e1)
 have xd := Ext.dr w1
 have r1 := r0.ext xd
 refine (cut_spec c.1 h.1 w1.drew).mono ?_
 rintro e w2 ⟨rfl, rfl⟩
 refine ⟨_, rfl, rfl, rfl, r1.loadL (o := 2) (fun j hj => by
  match j, hj with
  | 0, _ => rfl), r1.loadL (o := 1) (fun j hj => by
  match j, hj with
  | 0, _ => rfl), (cut_spec c.2.1 h.2.1 w1.drew).mono ?_⟩
 rintro e w4 ⟨rfl, rfl⟩
 refine ⟨_, rfl, rfl, rfl, r1.loadL (o := 2) (fun j hj => by
  match j, hj with
  | 0, _ => rfl), (cut_spec c.2.2 h.2.2 w1.drew).mono ?_⟩
 rintro e w6 ⟨rfl, rfl⟩
 exact ⟨_, rfl, rfl, rfl, fun w8 e8 => ⟨rfl, (x1.tr xd).of_setRow e8 omm⟩⟩
theorem Near1_spec (a b d : Int) (c c' : Ce) (he : c' = (c.1 + a, c.2.1 + b, c.2.2 + d)) (hc : wideC c) (ha : (-1 ≤ a ∧ a ≤ 1) ∧ (-1 ≤ b ∧ b ≤ 1) ∧ -1 ≤ d ∧ d ≤ 1) {g : Nat} {w : World} (hr : Row w g [c.1, c.2.1, c.2.2] tCe) :
  Cal 279 #[a, b, d, g] w fun e w' => e = (cev c') ∧ Ext w w' := by
 subst he
 apply cell_Near_1.vc
 obtain ⟨⟨h1, h2⟩, ⟨h3, h4⟩, h5, h6⟩ := id hc
 intro w0 e0
 have x0 := eaa e0
 have z0 := hs1 e0
 have xd := x0.tr (Ext.dr w0)
 have zd := zdr w0
 have r1 := hr.ext xd
 have q1 : wqq (c.1 + a) = c.1 + a := wI
 have q2 : wqq (c.2.1 + b) = c.2.1 + b := wI
 have q3 : wqq (c.2.2 + d) = c.2.2 + d := wI
 refine ⟨c.1, r1.at 0 rfl, c.2.1, r1.at 1 rfl, c.2.2, r1.at 2 rfl, (cut_spec c.1 omm w0.drew).mono ?_⟩
 rintro e w4 ⟨rfl, rfl⟩
 refine ⟨_, rfl, rfl, loadL1 (r1.at 2 rfl), loadL1 (r1.at 1 rfl), (cut_spec c.2.1 omm w0.drew).mono ?_⟩
 rintro e w6 ⟨rfl, rfl⟩
 refine ⟨_, rfl, rfl, loadL1 (r1.at 2 rfl), (cut_spec c.2.2 omm w0.drew).mono ?_⟩
 rintro e w8 ⟨rfl, rfl⟩
 refine ⟨_, rfl, rfl, ?_⟩
 rw [q1, q2, q3]
 refine (Cut_spec (c.1 + a, c.2.1 + b, c.2.2 + d) (by simp only; omega) w0.drew).mono ?_
 rintro e w10 ⟨rfl, x10⟩
 exact ⟨_, _, _, rfl, x10.heap omm, fun w14 e14 => ⟨rfl, (xd.tr x10).of_setRow e14 (ali34 _)⟩⟩
abbrev clv (c : Ce) : LV := [.int .i64 c.1, .int .i64 c.2.1, .int .i64 c.2.2]
theorem one_cl (c : Ce) : One (clv c) := by
 intro v hv; simp at hv; rcases hv with rfl | rfl | rfl <;> rfl
abbrev nbV (c : Ce) : LV := [.int .i64 (c.1 - 1), .int .i64 c.2.1, .int .i64 c.2.2, .int .i64 (c.1 + 1), .int .i64 c.2.1, .int .i64 c.2.2, .int .i64 c.1, .int .i64 (c.2.1 - 1), .int .i64 c.2.2, .int .i64 c.1, .int .i64 (c.2.1 + 1), .int .i64 c.2.2, .int .i64 c.1, .int .i64 c.2.1, .int .i64 (c.2.2 - 1), .int .i64 c.1, .int .i64 c.2.1, .int .i64 (c.2.2 + 1)]
theorem one_nb (c : Ce) : One (nbV c) := by
 intro v hv
 simp only [nbV, ali16, ali36, or_false] at hv
 rcases hv with rfl | rfl | rfl | rfl | rfl | rfl | rfl | rfl | rfl | rfl | rfl | rfl | rfl | rfl | rfl | rfl | rfl | rfl <;> rfl
theorem nbV_rows (c : Ce) : nbV c = ((nbK c).map clv).flatten := rfl
theorem putCells_all {cs vs : LV} (h : vs.length = cs.length) : putCells cs 0 vs = vs := by
 rw [putCells_eq _ _ _ omm]
 simp [← h]
theorem ce_eq {a b c a' b' c' : Int} (h1 : a = a') (h2 : b = b') (h3 : c = c') : ((a, b, c) : Ce) = (a', b', c') := by rw [h1, h2, h3]
set_option maxRecDepth 100000 in
theorem Near_spec (c : Ce) (hc : wideC c) (w : World) : Cal 221 #[cev c] w fun e w' => e = Value.agg (nbV c).toArray ∧ Ext w w' := by
 apply cell_Near.vc
 intro w0 e0 w1 e1
 have x1 : Ext w w1 := (eaa e0).of_alloc e1
 have z0 := hs1 e0
 have r0 : Row w1 w [c.1, c.2.1, c.2.2] tCe := (by rw [e0]; exact Row.new w [_, _, _] _ : Row w0 w _ _).ext (eaa e1)
 have rb : Row w1 w0 [vzz, vzz, vzz, vzz, vzz, vzz, vzz, vzz, vzz, vzz, vzz, vzz, vzz, vzz, vzz, vzz, vzz, vzz] 266 := Row.nw e1
 refine (Near1_spec (-1) 0 0 c (c.1 - 1, c.2.1, c.2.2) (ce_eq omm omm omm) hc dcc r0).mono ?_
 rintro e w2 ⟨rfl, x2⟩
 refine ⟨_, _, _, rfl, (Near1_spec 1 0 0 c (c.1 + 1, c.2.1, c.2.2) (ce_eq omm omm omm) hc dcc (r0.ext x2)).mono ?_⟩
 rintro e w6 ⟨rfl, x6⟩
 have y6 := x2.tr x6
 refine ⟨_, _, _, rfl, (Near1_spec 0 (-1) 0 c (c.1, c.2.1 - 1, c.2.2) (ce_eq omm omm omm) hc dcc (r0.ext y6)).mono ?_⟩
 rintro e w10 ⟨rfl, x10⟩
 have y10 := y6.tr x10
 refine ⟨_, _, _, rfl, (Near1_spec 0 1 0 c (c.1, c.2.1 + 1, c.2.2) (ce_eq omm omm omm) hc dcc (r0.ext y10)).mono ?_⟩
 rintro e w14 ⟨rfl, x14⟩
 have y14 := y10.tr x14
 refine ⟨_, _, _, rfl, (Near1_spec 0 0 (-1) c (c.1, c.2.1, c.2.2 - 1) (ce_eq omm omm omm) hc dcc (r0.ext y14)).mono ?_⟩
 rintro e w18 ⟨rfl, x18⟩
 have y18 := y14.tr x18
 refine ⟨_, _, _, rfl, (Near1_spec 0 0 1 c (c.1, c.2.1, c.2.2 + 1) (ce_eq omm omm omm) hc dcc (r0.ext y18)).mono ?_⟩
 rintro e w22 ⟨rfl, x22⟩
 have y22 := y18.tr x22
 have r22 := rb.ext y22
 refine ⟨_, _, _, rfl, ⟨rfl, r22.wr smm⟩, fun w26 e26 => ?_⟩
 have e26 : w26 = setP w22 (pzq w0.heap.size) (nbV c) := e26
 rw [r22.setP (vs := nbV c) smm (one_nb c), putCells_all smm] at e26
 have hr' : Row w26 w0 (nbV c) 266 := r22.st e26
 exact ⟨_, _, _, _, _, _, _, _, _, _, _, _, _, _, _, _, _, _, hr'.loadL (fun j hj => by rw [ali37]), rfl, (x1.tr y22).of_setRow e26 omm⟩
theorem Falls_spec (b : Int) (w : World) : Cal 222 #[b] w fun e w' => e = Value.bool (b == 3) ∧ w' = w := by
 apply block_Falls.vc
 exact ⟨rfl, rfl⟩
theorem Wet_spec (b : Int) (w : World) : Cal 262 #[b] w fun e w' => e = Value.bool (wetK b) ∧ w' = w := by
 apply block_Wet.vc
 unfold wetK
 refine Br.mk (fun h => ⟨?_, rfl⟩) (fun h => ⟨?_, rfl⟩)
 ·have h1 := qdq h
  rw [decide_eq_true h1, alj05]
 ·have h1 := qdq h
  rw [decide_eq_false h1, alj04]
theorem Delay_spec (b : Int) (w : World) : Cal 309 #[b] w fun e w' => e = Value.int .i64 (delayK b) ∧ w' = w := by
 apply flow_Delay.vc
 refine (Falls_spec b w).mono ?_
 rintro e w0 ⟨rfl, rfl⟩
 unfold delayK
 refine ⟨_, rfl, Br.mk (fun h => ?_) (fun h => (Wet_spec b w0).mono ?_)⟩
 ·rw [if_pos (by simpa using h)]; exact ⟨rfl, rfl⟩
 ·rintro e w2 ⟨rfl, rfl⟩
  rw [if_neg (by simpa using h)]
  refine ⟨_, rfl, Br.mk (fun h => ?_) (fun h => ?_)⟩
  ·rw [if_pos h]; exact ⟨rfl, rfl⟩
  ·rw [if_neg (by rw [h]; decide)]; exact ⟨rfl, rfl⟩
end Go.Proofs.YtjcnjlaelhdjeaaGreatDoor
