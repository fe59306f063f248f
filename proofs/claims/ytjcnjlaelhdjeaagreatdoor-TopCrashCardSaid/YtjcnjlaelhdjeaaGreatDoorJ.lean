import Derived.Test.YtjcnjlaelhdjeaaGreatDoorI
import Derived.Test.YtjcnjlaelhdjeaaGreatDoorD
import Derived.Test.YtjcnjlaelhdjeaaGreatDoorF
import Derived.Test.YtjcnjlaelhdjeaaGreatDoorE
import Derived.Laws.IdiomRangeMap
import Derived.LoopTactic
set_option linter.all false
namespace Go.Proofs.YtjcnjlaelhdjeaaGreatDoor
open Go Go.Vc Go.RowKit Go.Proofs Go.Chk Go.Runs
abbrev tDisk : TypeId := 237
abbrev tStore : TypeId := 177
abbrev tTable : TypeId := 136
abbrev tItem : TypeId := 143
abbrev tPI : TypeId := 137
theorem nnS {a : Addr} {K : Prop} (h : K) : AndL (nnC (some a)) K := h
theorem Id_spec (p : Po) (w : World) : Cal 157 #[pv p] w fun e w' => e = Value.tuple #[(idK p), .bool (decide (inT p))] ∧ Ext w w' := by
 apply table_Id.vc
 intro w0 e0
 have x0 := eaa e0
 have no : ¬ inT p → Ending.returned (.tuple #[vzz, false]) = Ending.returned (.tuple #[(idK p), .bool (decide (inT p))]) ∧ Ext w w0 := fun h => ⟨by rw [idK_out h, decide_eq_false h], x0⟩
 refine Br.mk (fun h => no ?_) (fun h => Br.mk (fun h2 => no ?_) (fun h2 => Br.mk (fun h3 => no ?_) (fun h3 => Br.mk (fun h4 => no ?_) (fun h4 => ?_)))) <;> simp only [ali27, ali28] at *
 ·unfold inT; omega
 ·unfold inT; omega
 ·unfold inT; omega
 ·unfold inT; omega
 ·have hin : inT p := by unfold inT; omega
  refine ⟨?_, x0⟩
  rw [decide_eq_true hin, wrap_in (n := p.1 + 524288) (by unfold inI; omega), wrap_in (n := (p.1 + 524288) * 2) (by unfold inI; omega), wrap_in (n := (p.1 + 524288) * 2 * 524288) (by unfold inI; omega), wrap_in (n := (p.1 + 524288) * 2 * 524288 + p.2) (by unfold inI; omega), wrap_in (n := (p.1 + 524288) * 2 * 524288 + p.2 + 524288) (by unfold inI; omega), wrap_in (n := (p.1 + 524288) * 2 * 524288 + p.2 + 524288 + 1) (by unfold inI; omega)]
  unfold idK
  rw [if_pos hin, show (p.1 + 524288) * 2 * 524288 + p.2 + 524288 + 1 = (p.1 + 524288) * 1048576 + (p.2 + 524288) + 1 by omega]
def GI (v : Value) : Prop := ∃ n : Int, v = .int .i64 n
theorem intKey : KeyOk Tryz.prog tInt GI := by
 refine ⟨?_, ?_, ?_⟩
 ·rintro x y ⟨a, rfl⟩ ⟨b, rfl⟩
  refine ⟨a == b, by kernel_rfl, ?_⟩
  simp
 ·rintro x ⟨a, rfl⟩ b w
  kernel_rfl
 ·rintro x ⟨a, rfl⟩
  simp [Instr.sameBits]
theorem clone_run {P : Program} {w : World} {r : Nat} {es : Array MapEntry} {clock : Nat} (t : TypeId) (hb : w.heap[r]? = some (.map es clock)) :
  (Extern.MapsClone.clone #[.iface t (.map (some r))]).run P w = .ok (.iface t (.map (some w.heap.size))) (w.alloc (.map es clock)) := by
 have e : Extern.MapsClone.clone #[.iface t (.map (some r))] = (getObj r >>= fun o => match o with
   | .map entries clock => (newObj (.map entries clock) >>= fun n => pure (.iface t (.map (some n))))
   | _ => stuck "maps.clone: a map expected") := rfl
 rw [e]
 simp [getMap_run hb, newObj_run, Result.andThen, Sem.run_bind]
theorem mapsClone_spec {w : World} {r : Nat} {kvs : List (Value × Value)} (hm : MapIs GI w (some r) kvs) : Cal 369 #[.map (some r)] w fun e w' => e = Value.map (some w.heap.size) ∧ MapIs GI w' (some w.heap.size) kvs ∧ Ext w w' := by
 apply maps_Clone_byte.vc
 refine Br.mk (fun h => by cases h) (fun _ => ?_)
 obtain ⟨es, clock, hb, h2⟩ := hm
 refine ⟨Extern.MapsClone.clone, ⟨_, Tryz.func386, by kernel_rfl, by kernel_rfl, by kernel_rfl⟩, _, _, clone_run _ hb, _, rfl, _, rfl, rfl, ⟨es, clock, World.alloc_heap_new w _, h2⟩, Ext.al w _⟩
end Go.Proofs.YtjcnjlaelhdjeaaGreatDoor
namespace Go.Proofs.YtjcnjlaelhdjeaaGreatDoor.Q
open Go Go.Vc Go.RowKit Go.Proofs Go.Que
set_option maxRecDepth 100000
abbrev tCell : TypeId := 23
abbrev tItem : TypeId := 106
abbrev tQueue : TypeId := 192
def GC (v : Value) : Prop := ∃ c : Cl, v = cv c
theorem cellKey : KeyOk Tryz.prog tCell GC := by
 refine ⟨?_, ?_, ?_⟩
 ·rintro x y ⟨a, rfl⟩ ⟨b, rfl⟩
  refine ⟨a.1 == b.1 && (a.2.1 == b.2.1 && a.2.2 == b.2.2), by kernel_rfl, ?_⟩
  simp only [ali39, beq_iff_eq]
  constructor
  ·rintro ⟨h1, h2, h3⟩
   unfold cv; rw [h1, h2, h3]
  ·intro h
   rw [cv_inj h]; simp
 ·rintro x ⟨a, rfl⟩ b w
  kernel_rfl
 ·rintro x ⟨a, rfl⟩
  simp [cv, Instr.sameBits]
theorem isNaN_spec (a : Int) (w : World) : Cal 361 #[a] w fun e w' => e = false ∧ w' = w := by
 apply cmp_isNaN_int.vc
 simp
theorem compare_spec (a b : Int) (w : World) : Cal 326 #[a, b] w fun e w' => e = Value.int .i64 (if a < b then -1 else if b < a then 1 else 0) ∧ w' = w := by
 apply cmp_Compare_int.vc
 refine (isNaN_spec a w).mono ?_
 rintro e w1 ⟨rfl, rfl⟩
 refine ⟨_, rfl, (isNaN_spec b w1).mono ?_⟩
 rintro e w2 ⟨rfl, rfl⟩
 refine ⟨_, rfl, Br.mk (fun h => by cases h) (fun _ => Br.mk (fun h => by cases h) (fun _ => Br.mk (fun h => ?_) (fun h => Br.mk (fun h2 => ?_) (fun h2 => ?_))))⟩
 ·replace h := q0T h
  rw [if_pos h]; exact ⟨rfl, rfl⟩
 ·simp only [ali27, ali28] at h h2
  rw [if_neg h, if_pos h2]; exact ⟨rfl, rfl⟩
 ·simp only [ali28] at h h2
  rw [if_neg h, if_neg h2]; exact ⟨rfl, rfl⟩
theorem or2_spec (a b : Int) (g : Nat) (w : World) (hr : Row w g [a, b] 3) :
  Cal 325 #[.slice (pzq g) 2 2] w fun e w' => e = Value.int .i64 (if a = 0 then b else a) ∧ w' = w := by
 apply (cmp_Or_int.vc (a0 := ⟨pzq g, 2, 2⟩))
 refine ⟨fun n x wr => wr = w ∧ ∃ k : Nat, x = k ∧ k + n = 2 ∧ (1 ≤ k → a = 0) ∧ (2 ≤ k → b = 0), ⟨2, rfl, 0, rfl, rfl, by omega, by omega⟩, ?_⟩
 rintro n us x wr ⟨rfl, k, rfl, hk, h1, h2⟩
 have hw := wrap_in (n := (k : Int) + 1) (by unfold inI; omega)
 rw [hw]
 apply Br.mk <;> intro h <;> simp only [ali27, ali28] at h
 ·refine ⟨⟨rfl, by omega, by omega⟩, if k = 0 then a else b, ?_, Br.mk (fun h3 => ?_) (fun h3 => ?_)⟩
  ·show ld wr (padd (pzq g) _) = _
   rw [padd_row, hr.ld]
   have : k = 0 ∨ k = 1 := by simp at h; omega
   rcases this with rfl | rfl <;> rfl
  ·simp only [bne_iff_ne, ne_eq] at h3
   have : k = 0 ∨ k = 1 := by simp at h; omega
   rcases this with rfl | rfl
   ·rw [if_pos rfl] at h3 ⊢
    rw [if_neg h3]; exact ⟨rfl, rfl⟩
   ·rw [if_neg (show ¬((1 : Nat) = 0) by omega)] at h3 ⊢
    rw [if_pos (h1 omm)]; exact ⟨rfl, rfl⟩
  ·simp only [bne_eq_false_iff_eq] at h3
   have : k = 0 ∨ k = 1 := by simp at h; omega
   rcases this with rfl | rfl
   ·rw [if_pos rfl] at h3
    exact ⟨n - 1, by omega, rfl, 1, by omega, by omega, fun _ => h3, by omega⟩
   ·rw [if_neg (show ¬((1 : Nat) = 0) by omega)] at h3
    exact ⟨n - 1, by omega, rfl, 2, by omega, by omega, fun _ => h1 omm, fun _ => h3⟩
 ·have : k = 2 := by simp at h; omega
  subst this
  rw [if_pos (h1 omm), h2 omm]; exact ⟨rfl, rfl⟩
theorem push1_spec (x y : It) (w : World) : Cal 324 #[.agg (itv x).toArray, .agg (itv y).toArray] w fun e w' => (∃ z : Int, e = z ∧ (z < 0 ↔ x.1 ≤ y.1)) ∧ Ext w w' := by
 apply queue_Queue_push_1.vc
 intro w0 e0 w1 e1
 have x1 : Ext w w1 := by rw [e1, e0]; exact (Ext.al _ _).tr (Ext.al _ _)
 refine (compare_spec x.1 y.1 _).mono ?_
 intro e w2 hh
 obtain ⟨rfl, ew⟩ := hh
 have x2 : Ext w w2 := by rw [ew]; exact x1
 refine ⟨_, rfl, by rw [ew], by rw [ew], ?_⟩
 intro w4 e4
 have x4 : Ext w w4 := x2.of_alloc e4
 have hrow : Row w4 w2 [.int .i64 (if x.1 < y.1 then -1 else if y.1 < x.1 then 1 else 0), (-1 : Int)] 3 := by
  rw [e4]; exact Row.new w2 [_, _] _
 refine (or2_spec _ _ _ _ hrow).mono ?_
 intro e w5 hh
 obtain ⟨rfl, ew5⟩ := hh
 refine ⟨_, rfl, by rw [ew5], by rw [ew5], ⟨_, rfl, ?_⟩, by rw [ew5]; exact x4⟩
 by_cases h1 : x.1 < y.1
 ·rw [if_pos h1]; simp; omega
 ·by_cases h2 : y.1 < x.1
  ·rw [if_neg h1, if_pos h2]; simp; omega
  ·rw [if_neg h1, if_neg h2]; simp; omega
end Go.Proofs.YtjcnjlaelhdjeaaGreatDoor.Q
namespace Go.Proofs.YtjcnjlaelhdjeaaGreatDoor.Q
open Go Go.Vc Go.RowKit Go.Proofs Go.Que
set_option maxRecDepth 100000
theorem rows_wd (l : List It) : ∀ r ∈ l.map itv, r.length = 4 := by
 intro r hr; obtain ⟨x, _, rfl⟩ := ali06.1 hr; rfl
theorem rows_one (l : List It) : ∀ r ∈ l.map itv, One r := by
 intro r hr; obtain ⟨x, _, rfl⟩ := ali06.1 hr
 intro u hu; simp at hu
 rcases hu with rfl | rfl | rfl | rfl <;> rfl
theorem itv_one (x : It) : One (itv x) := by
 intro u hu; simp at hu
 rcases hu with rfl | rfl | rfl | rfl <;> rfl
theorem take_flat (l : List It) (i : Nat) : (l.map itv).flatten.take (i * 4) = ((l.take i).map itv).flatten := by
 have hw := rows_wd (l.take i)
 rcases alj62 i l.length with h | h
 ·conv => lhs; rw [← alj52 i l, ali08, alj21]
  rw [alj54 (by rw [flatten_len hw]; simp; omega)]
 ·rw [ali11 h, ali11]
  rw [flatten_len (rows_wd l)]; simp; omega
theorem drop_flat (l : List It) (i : Nat) : (l.map itv).flatten.drop (i * 4) = ((l.drop i).map itv).flatten := by
 rcases alj62 i l.length with h | h
 ·conv => lhs; rw [← alj52 i l, ali08, alj21]
  rw [List.drop_left' (by rw [flatten_len (rows_wd _)]; simp; omega)]
 ·rw [alj12 h, alj12]
  ·rfl
  ·rw [flatten_len (rows_wd l)]; simp; omega
theorem rest_get {cs : LV} {l : List It} {n : Nat} (ht : cs.take (n * 4) = (l.map itv).flatten) (hn : n = l.length) (i j : Nat) (hj : j < ((l.drop i).map itv).flatten.length) : cs[i * 4 + j]? = ((l.drop i).map itv).flatten[j]? := by
 rw [← drop_flat, alj24, ← ht, alj29, if_pos]
 rw [flatten_len (rows_wd _)] at hj
 simp at hj
 omega
set_option maxRecDepth 100000 in
theorem overlaps_spec {w : World} {g g' : Nat} {x cs : LV} (hx : Row w g x tItem) (hr : Row w g' cs tItem) (hne : g ≠ g') (hc : cs.length ≠ 0) (o : Nat) (la ca lb cb : Nat) {R : Ending → World → Prop} (h : R (.returned (.bool false)) w) :
  ExtC Tryz.prog 362 [.slice (pzq g) la ca, .slice (pnq g' o) lb cb] w R := by
 refine ⟨_, ⟨_, rfl, by kernel_rfl, by kernel_rfl, by kernel_rfl⟩, _, _, Lib.run_overlaps_apart w 71 0 tItem (by kernel_rfl) 4 (fun w => by kernel_rfl) ⟨g, 0, none⟩ ⟨g', o, none⟩ la ca lb cb hne tItem tItem x.length cs.length ?_ ?_ hc ?_ ?_, h⟩
 ·simp [World.shape?, show w.heap[g]? = _ from hx]
 ·simp [World.shape?, show w.heap[g']? = _ from hr]
 ·simp [World.frozen?, show w.heap[g]? = _ from hx]
 ·simp [World.frozen?, show w.heap[g]? = _ from hx]
theorem overlaps_spec' {w : World} {g g' : Nat} {x cs : LV} (hx : Row w g x tItem) (hr : Row w g' cs tItem) (hne : g ≠ g') (hc : cs.length ≠ 0) {p : Option Addr} {o : Nat} (hp : p = some ⟨g', o, none⟩) (la ca lb cb : Nat) {R : Ending → World → Prop} (h : R (.returned (.bool false)) w) :
  ExtC Tryz.prog 362 [.slice (pzq g) la ca, .slice p lb cb] w R := by
 subst hp; exact overlaps_spec hx hr hne hc o la ca lb cb h
end Go.Proofs.YtjcnjlaelhdjeaaGreatDoor.Q
namespace Go.Proofs.YtjcnjlaelhdjeaaGreatDoor.Q
open Go Go.Vc Go.RowKit Go.Proofs Go.Que
set_option maxRecDepth 100000
theorem zeroRows_it (n : Nat) : zeroRows [vzz, vzz, vzz, vzz] n = ((List.replicate n ((0, 0, 0, 0) : It)).map itv).flatten := by
 unfold zeroRows; simp
theorem Insert_spec {w : World} {s : Sl} {l : List It} {i g : Nat} {x : It} (ho : OwnK 0 tItem 4 w s (l.map itv)) (hx : Row w g (itv x) tItem) (hi : i ≤ l.length) (hl : l.length ≤ 5000) (hne : s.blk ≠ some g) :
  Cal 327 #[s, (i : Int), .slice (pzq g) 1 1] w fun e w' => ∃ s' : Sl, e = Value.slice s'.a s'.n s'.c ∧ OwnK 0 tItem 4 w' s' ((l.take i ++ x :: l.drop i).map itv) ∧ Mod (fun b => s.blk = some b) w w' ∧ (∀ b, s'.blk = some b → s.blk = some b ∨ w.heap.size ≤ b) := by
 have hn : s.n = l.length := by rw [(ho.rd dcc).n, ali01]
 apply slices_Insert_Item.vc (a2 := ⟨pzq g, 1, 1⟩)
 have hw1 : wqq (((s.n : Nat) : Int) + ((1 : Nat) : Int)) = ((s.n + 1 : Nat) : Int) := by rw [wI]; omega
 have hw2 : wqq ((i : Int) + ((1 : Nat) : Int)) = ((i + 1 : Nat) : Int) := by rw [wI]; omega
 have hw3 : wqq (((s.n + 1 : Nat) : Int) - (i : Int)) = ((s.n + 1 - i : Nat) : Int) := by rw [wI]; omega
 have hw4 : wqq ((s.n + 1 - i : Nat) : Int) = ((s.n + 1 - i : Nat) : Int) := wI
 have hrx : Rd w (pzq g) (itv x) := hx.rd0 fun j hj => rfl
 dsimp only
 rw [hw1, hw2, hw3, hw4]
 simp only [ali30, Nat.sub_zero, slBase_zero]
 refine ⟨by omega, by omega, Br.mk (fun h => by cases h) (fun _ => Br.mk (fun h => ?_) (fun h => ?_))⟩
 ·
  have he : i = l.length := by simp at h; omega
  obtain ⟨hp, hr⟩ := ho.append (bytes := 32) (news := itv x) (alj66 _) rfl (itv_one x) omm omm
  refine ⟨itv x, hrx, hp, fun s' w' hres => ?_⟩
  obtain ⟨h1, h2, h3, h4, h5⟩ := hr s' w' hres
  refine ⟨s', rfl, ?_, Mod.of_app h3 h4, ?_⟩
  ·rw [he, ali26, List.drop_length, ali08]; exact h1
  ·intro b hb
   rcases h5 with h5 | h5
   ·exact .inl (h5 ▸ hb)
   ·rw [h5] at hb; cases hb; exact .inr (ali34 _)
 ·have hlt : i < l.length := by
   have : i ≠ l.length := fun e => by subst e; simp [hn] at h
   omega
  rcases ho.form dcc with ⟨hs, hnil⟩ | ⟨g0, cs, ha, hg0, hr, hc, hnc, ht, hn'⟩
  ·have : l = [] := by simpa using hnil
   subst this; simp at hlt
  have hneg : g0 ≠ g := fun e => hne (by unfold Sl.blk; rw [ha, e]; rfl)
  have hblk : s.blk = some g0 := by unfold Sl.blk; rw [ha]; rfl
  have htk : cs.take (i * 4) = ((l.take i).map itv).flatten := by
   rw [← take_flat, ← ht, List.take_take, Nat.min_eq_left omm]
  rw [ha]
  apply Br.mk <;> intro h2
  ·
   replace h2 := q0T h2
   have hpre : OwnK 0 tItem 4 w ⟨pzq g0, i, s.c⟩ ((l.take i).map itv) := OwnK.of_row (alj66 _) hr hc omm htk (rows_wd _)
   obtain ⟨hp, -⟩ := hpre.appN (bytes := 32) (more := (List.replicate (s.n + 1 - i) ((0, 0, 0, 0) : It)).map itv) (alj66 _) (rows_wd _) (rows_one _) (by simp; omega) (by simp; omega)
   have hlen : ((List.replicate (s.n + 1 - i) ((0, 0, 0, 0) : It)).map itv).length = s.n + 1 - i := by simp
   rw [hlen] at hp
   rw [zeroRows_it]
   refine ⟨by omega, by omega, ⟨by omega, trivial, by omega⟩, hp, fun s3 w4 hres => ?_⟩
   generalize hz : ((List.replicate (s.n + 1 - i) ((0, 0, 0, 0) : It)).map itv).flatten = zs at hres
   have hzl : zs.length = (s.n + 1 - i) * 4 := by rw [← hz, flatten_len (rows_wd _)]; simp
   cases hres with
   | fits hf => simp only at hf; omega
   | grows hg olds rest cap q1 q2 q3 q4 =>
     simp only at q1 q2 q3
     have hold : olds = cs.take (i * 4) := by
      refine Rd_unique q2 (hr.rd0 (vs := cs.take (i * 4)) fun j hj => ?_) ?_
      ·rw [ali12] at hj
       rw [alj29, if_pos omm]
      ·rw [q1, ali12]; omega
     have hR : Row (w.drew.alloc (.cells (olds ++ zs ++ rest).toArray tItem)) w.heap.size (olds ++ zs ++ rest) tItem := Row.new w.drew _ _
     generalize hw4' : w.drew.alloc (.cells (olds ++ zs ++ rest).toArray tItem) = w4 at hR
     have x4 : Ext w w4 := by rw [← hw4']; exact (Ext.dr w).tr (Ext.al _ _)
     have hr4 := hr.ext x4
     have hlt0 := hr.lt
     have hn3 : i + (s.n + 1 - i) = s.n + 1 := by omega
     have hCl : (s.n + 1) * 4 ≤ (olds ++ zs ++ rest).length := by rw [q4]; exact alj63 _ omm
     dsimp only
     rw [hn3]
     have hx4 := hx.ext x4
     have hsl : ((l.drop i).map itv).flatten.length = (s.n - i) * 4 := by rw [flatten_len (rows_wd _)]; simp; omega
     have hm1 : min 1 (s.n + 1 - i) * 4 = 4 := by
      have : min 1 (s.n + 1 - i) = 1 := by omega
      rw [this]
     have hm2 : min (s.n - i) (s.n + 1 - (i + 1)) = s.n - i := by omega
     obtain ⟨p1, p2, p3⟩ := hR.poke (vs := itv x) (l := i) (m := cap) (size := 4) (by intro e; omega) (by simp; omega) (itv_one x)
     refine ⟨by omega, by omega, itv x, ⟨hm1.symm, hx4.rd0 fun j hj => rfl, itv_one x, p1⟩, ?_⟩
     intro w6 e6
     rw [← e6] at p2 p3
     have hr6 : Row w6.drew g0 cs tItem := (p3.row hr4 omm).ext (Ext.dr _)
     have p2' : Row w6.drew w _ tItem := p2.ext (Ext.dr _)
     obtain ⟨u1, u2, u3⟩ := p2'.poke (vs := ((l.drop i).map itv).flatten) (l := i + 1) (m := cap) (size := 4) (by intro e; rw [alj12 omm]; rfl) (by rw [hsl, Go.Vc.putCells_length]; omega) (One_flatten (rows_one _))
     refine ⟨by omega, by omega, by omega, by omega, ((l.drop i).map itv).flatten, ⟨by rw [hm2, hsl], hr6.peek (by intro e; rw [alj12 omm]; rfl) (rest_get ht hn i), One_flatten (rows_one _), u1⟩, ?_⟩
     intro w8 e8
     rw [← e8] at u2 u3
     refine ⟨⟨pzq w.heap.size, s.n + 1, cap⟩, rfl, OwnK.of_row (alj66 _) u2 (by rw [Go.Vc.putCells_length, Go.Vc.putCells_length, q4]; exact ali34 _) omm ?_ (rows_wd _), ?_, ?_⟩
     ·rw [two_puts (by simp; omega) (by rw [hsl]; omega) hCl, ali15, ali15, alj54 (by rw [q1]), hold, htk]
      simp
     ·refine ((Mod.of_ext x4).tr p3 (fun b hb => .inr omm)).tr (F' := fun b => b = w.heap.size) ?_ (fun b hb => .inr omm)
      exact (Mod.of_ext (Ext.dr _)).trans u3
     ·intro b hb
      have : w.heap.size = b := by simpa [Sl.blk] using hb
      exact .inr omm
  ·
   replace h2 := q0F h2
   have hCl : (s.n + 1) * 4 ≤ cs.length := ali41 (alj63 _ omm) hc
   have hsl : ((l.drop i).map itv).flatten.length = (s.n - i) * 4 := by rw [flatten_len (rows_wd _)]; simp; omega
   refine ⟨by omega, by omega, by omega, by omega, ?_⟩
   refine overlaps_spec' hx hr (Ne.symm hneg) omm (by rw [slBase_row, if_neg omm]) _ _ _ _ ⟨_, rfl, Br.mk (fun _ => ?_) (fun h => by cases h)⟩
   have hm2 : min (s.n + 1 - i) (s.n + 1 - (i + 1)) = s.n - i := by omega
   have hm1 : min 1 (s.n + 1 - i) * 4 = 4 := by
    have : min 1 (s.n + 1 - i) = 1 := by omega
    rw [this]
   have hr' := hr.ext (Ext.dr w)
   obtain ⟨u1, u2, u3⟩ := hr'.poke (vs := ((l.drop i).map itv).flatten) (l := i + 1) (m := s.c) (size := 4) (by intro e; omega) (by rw [hsl]; omega) (One_flatten (rows_one _))
   refine ⟨by omega, by omega, by omega, by omega, ((l.drop i).map itv).flatten, ⟨by rw [hm2, hsl], hr'.peek (by intro e; omega) (rest_get ht hn i), One_flatten (rows_one _), u1⟩, ?_⟩
   intro w12 e12
   rw [← e12] at u2 u3
   obtain ⟨p1, p2, p3⟩ := u2.poke (vs := itv x) (l := i) (m := s.c) (size := 4) (by intro e; omega) (by rw [Go.Vc.putCells_length]; simp; omega) (itv_one x)
   have hx12 : Row w12 g (itv x) tItem := u3.row (hx.ext (Ext.dr w)) (Ne.symm hneg)
   refine ⟨by omega, by omega, itv x, ⟨hm1.symm, hx12.rd0 fun j hj => rfl, itv_one x, p1⟩, ?_⟩
   intro w14 e14
   rw [← e14] at p2 p3
   refine ⟨⟨pzq g0, s.n + 1, s.c⟩, rfl, OwnK.of_row (alj66 _) p2 (by rw [Go.Vc.putCells_length, Go.Vc.putCells_length]; exact hc) omm ?_ (rows_wd _), ?_, ?_⟩
   ·rw [two_puts' (by simp; omega) (by rw [hsl]; omega) hCl, htk]
    simp
   ·refine (((Mod.of_ext (Ext.dr w)).trans u3).trans p3).mono fun b _ hb => ?_
    rw [hblk, hb]
   ·intro b hb; exact .inl (hblk.trans hb)
end Go.Proofs.YtjcnjlaelhdjeaaGreatDoor.Q
namespace Go.Proofs.YtjcnjlaelhdjeaaGreatDoor.Q
open Go Go.Vc Go.RowKit Go.Proofs Go.Que
set_option maxRecDepth 100000
theorem RdK.item {w : World} {s : Sl} {l : List It} (h : RdK w s 4 (l.map itv)) {i : Nat} {x : It} (hi : l[i]? = some x) : LoadL w (padd s.a (i * 4)) 0 (itv x) :=
 h.loadL (by rw [ali02, hi]; rfl)
theorem Bin_spec {w : World} {s : Sl} {l : List It} (x : It) (h : RdK w s 4 (l.map itv)) (hs : l.Pairwise fun a b => a.1 ≤ b.1) (hl : l.length ≤ 5000) :
  Cal 323 #[s, .agg (itv x).toArray, .func (.func 324) #[] #[]] w fun e w' => (∃ b, e = Value.tuple #[.int .i64 ((l.takeWhile fun y => y.1 ≤ x.1).length : Nat), .bool b]) ∧ Ext w w' := by
 have hn : s.n = l.length := by rw [h.n, ali01]
 apply slices_BinarySearchFunc_Item.vc
 intro w0 e0
 have x0 := eaa e0
 have hs0 : w0.heap.size = w.heap.size + 1 := by rw [e0]; simp [World.alloc_eq]
 have hk : (l.takeWhile fun y => decide (y.1 ≤ x.1)).length ≤ l.length := (List.takeWhile_sublist _).length_le
 generalize hkk : (l.takeWhile fun y => decide (y.1 ≤ x.1)).length = k at hk
 have hat : ∀ {i : Nat} {y : It}, l[i]? = some y → (i < k ↔ y.1 ≤ x.1) := fun hi => by rw [← hkk]; exact takeWhile_at hs x.1 hi
 refine ⟨fun n a b wr => Ext w0 wr ∧ ∃ lo hi : Nat, a = lo ∧ b = hi ∧ lo ≤ k ∧ k ≤ hi ∧ hi ≤ l.length ∧ n = hi - lo, ⟨_, rfl, Ext.rfl' _, 0, s.n, rfl, rfl, alj66 _, by omega, by omega, rfl⟩, ?_⟩
 rintro n us a b wr ⟨xr, lo, hi, rfl, rfl, h1, h2, h3, rfl⟩
 refine Br.mk (fun hlt => ?_) (fun hge => ?_) <;> simp only [ali27, ali28] at *
 ·rw [mid_eq omm]
  have hmid : (lo + hi) / 2 < l.length := by omega
  have hget : l[(lo + hi) / 2]? = some l[(lo + hi) / 2] := ali04 hmid
  generalize l[(lo + hi) / 2] = y at hget
  have hr := (h.ext (x0.tr xr)).ext (Ext.dr wr)
  have hsz := xr.size
  refine ⟨⟨?_, by omega, by omega⟩, y.1, y.2.1, y.2.2.1, y.2.2.2, RdK.item hr hget, ?_⟩
  ·exact h.isSome dcc (i := (lo + hi) / 2) (by simpa using hmid)
  refine callV_of (by kernel_rfl) rfl ((push1_spec y x _).mono ?_)
  rintro e w2 ⟨⟨z, rfl, hz⟩, x2⟩
  have hz' := (hat hget).trans hz.symm
  have x3 := (xr.tr (Ext.dr wr)).tr x2
  refine ⟨z, rfl, (x2.heap ?_), Br.mk (fun hb => ?_) (fun hb => ?_)⟩
  ·show w.heap.size < wr.heap.size
   omega
  ·replace hb := q0T hb
   have := hz'.2 hb
   have hw : wqq ((((lo + hi) / 2 : Nat) : Int) + 1) = (((lo + hi) / 2 + 1 : Nat) : Int) := by rw [wI]; omega
   rw [hw]
   exact ⟨_, by omega, trivial, x3, (lo + hi) / 2 + 1, hi, rfl, rfl, by omega, h2, h3, rfl⟩
  ·replace hb := q0F hb
   have : ¬ (lo + hi) / 2 < k := fun h => hb (hz'.1 h)
   exact ⟨_, by omega, trivial, x3, lo, (lo + hi) / 2, rfl, rfl, h1, by omega, by omega, rfl⟩
 ·have : lo = k := by omega
  subst this
  have hr := (h.ext (x0.tr xr)).ext (Ext.dr wr)
  have hsz := xr.size
  refine Br.mk (fun hb => ?_) (fun hb => ⟨⟨_, rfl⟩, x0.tr (xr.tr (Ext.dr _))⟩)
  replace hb := q0T hb
  have hget : l[lo]? = some (l[lo]'omm) := ali04 omm
  generalize l[lo]'omm = y at hget
  refine ⟨⟨h.isSome dcc (i := lo) (by simp; omega), by omega, by omega⟩, y.1, y.2.1, y.2.2.1, y.2.2.2, RdK.item hr hget, ?_⟩
  refine callV_of (by kernel_rfl) rfl ((push1_spec y x _).mono ?_)
  rintro e w2 ⟨⟨z, rfl, hz⟩, x2⟩
  refine ⟨z, rfl, x2.heap (show w.heap.size < wr by omega), ⟨_, rfl⟩, (x0.tr (xr.tr (Ext.dr wr))).tr x2⟩
theorem drop1_spec (x : It) {b : Nat} {c : Cl} {w : World} (hb : Row w b (clv c) tCell) : Cal 322 #[.agg (itv x).toArray, b] w fun e w' => e = Value.bool (x.2 == c) ∧ Ext w w' := by
 apply queue_Queue_Drop_1.vc
 intro w0 e0
 have x0 := eaa e0
 exact ⟨c.1, c.2.1, c.2.2, (hb.ext x0).loadL (fun j hj => by rw [ali37]), rfl, x0⟩
theorem Index_spec {w : World} {s : Sl} {l : List It} {b : Nat} {c : Cl} (h : RdK w s 4 (l.map itv)) (hb : Row w b (clv c) tCell) (hl : l.length ≤ 5000) :
  Cal 360 #[s, .func (.func 322) #[] #[b]] w fun e w' => (∃ i : Int, e = i ∧ ((i = -1 ∧ ∀ x ∈ l, x.2 ≠ c) ∨ ∃ k : Nat, i = k ∧ k < l.length ∧ (∀ x ∈ l.take k, x.2 ≠ c) ∧ ∀ x, l[k]? = some x → x.2 = c)) ∧ Ext w w' := by
 have hn : s.n = l.length := by rw [h.n, ali01]
 apply slices_IndexFunc_Item.vc
 refine ⟨fun n a wr => Ext w wr ∧ ∃ k : Nat, a = k ∧ k + n = l.length ∧ (∀ x ∈ l.take k, x.2 ≠ c), ⟨l.length, Ext.rfl' _, 0, rfl, by omega, by simp⟩, ?_⟩
 rintro n us a wr ⟨xr, k, rfl, h1, h2⟩
 refine Br.mk (fun hlt => ?_) (fun hge => ?_) <;> simp only [ali27, ali28] at *
 ·have hget : l[k]? = some (l[k]'omm) := ali04 omm
  generalize l[k]'omm = y at hget
  refine ⟨⟨h.isSome dcc (i := k) (by simp; omega), by omega, by omega⟩, y.1, y.2.1, y.2.2.1, y.2.2.2, RdK.item (h.ext xr) hget, ?_⟩
  refine callV_of (by kernel_rfl) rfl ((drop1_spec y (hb.ext xr)).mono ?_)
  rintro e w2 ⟨rfl, x2⟩
  refine ⟨_, rfl, Br.mk (fun hb => ?_) (fun hb => ?_)⟩
  ·refine ⟨⟨_, rfl, .inr ⟨k, rfl, by omega, h2, fun x hx => ?_⟩⟩, xr.tr x2⟩
   rw [hget] at hx; cases hx; simpa using hb
  ·have hw := wkS (j := k)
   rw [hw]
   refine ⟨n - 1, by omega, xr.tr x2, k + 1, rfl, by omega, fun x hx => ?_⟩
   rw [ali09, hget] at hx
   rcases ali25.1 hx with hx | hx
   ·exact h2 x hx
   ·simp at hx; subst hx; simpa using hb
 ·refine ⟨⟨_, rfl, .inl ⟨rfl, ?_⟩⟩, xr⟩
  rw [ali11 omm] at h2
  exact h2
end Go.Proofs.YtjcnjlaelhdjeaaGreatDoor.Q
namespace Go.Proofs.YtjcnjlaelhdjeaaGreatDoor.Q
open Go Go.Vc Go.RowKit Go.Proofs Go.Que
set_option maxRecDepth 100000
theorem clear_tail {w : World} {s : Sl} {l : List It} (ho : OwnK 0 tItem 4 w s (l.map itv)) {i : Nat} (hi : i ≤ l.length) :
  Wr w (slBase s.a i s.c 4) ((s.n - i) * 4) ∧ ∀ w', w' = setP w (slBase s.a i s.c 4) (zeroRows [vzz, vzz, vzz, vzz] (s.n - i)) →
   OwnK 0 tItem 4 w' ⟨s.a, i, s.c⟩ ((l.take i).map itv) ∧ Mod (fun b => s.blk = some b) w w' := by
 have hn : s.n = l.length := by rw [(ho.rd dcc).n, ali01]
 rw [zeroRows_it]
 rcases ho.form dcc with ⟨hs, hnil⟩ | ⟨g0, cs, ha, hg0, hr, hc, hnc, ht, hn'⟩
 ·have : l = [] := by simpa using hnil
  subst this
  have : i = 0 := by simpa using hi
  subst this
  subst hs
  refine ⟨fun j hj => by simp at hj, fun w' e => ?_⟩
  have : w' = w := by rw [e]; rfl
  subst this
  exact ⟨OwnK.nil, Mod.refl _ _⟩
 ·have hblk : s.blk = some g0 := by unfold Sl.blk; rw [ha]; rfl
  have hzl : ((List.replicate (s.n - i) ((0, 0, 0, 0) : It)).map itv).flatten.length = (s.n - i) * 4 := by rw [flatten_len (rows_wd _)]; simp
  have hcl : s.n * 4 ≤ cs.length := ali41 (alj63 _ hnc) hc
  rw [ha]
  have hz0 : s.c = i → ((List.replicate (s.n - i) ((0, 0, 0, 0) : It)).map itv).flatten = [] := fun e => by
   have : s.n - i = 0 := by omega
   rw [this]; rfl
  obtain ⟨p1, p2, p3⟩ := hr.poke (l := i) (m := s.c) (size := 4) hz0 (by rw [hzl]; omega) (One_flatten (rows_one _))
  rw [hzl] at p1
  refine ⟨p1, fun w' e => ?_⟩
  rw [← e] at p2 p3
  refine ⟨OwnK.of_row (alj66 _) p2 (by rw [Go.Vc.putCells_length]; exact hc) omm ?_ (rows_wd _), p3.mono fun b _ hb => by rw [hblk, hb]⟩
  rw [putCells_eq _ _ _ (by rw [hzl]; omega), ali15, alj54 (by rw [ali12]; omega), ← take_flat, ← ht, List.take_take, Nat.min_eq_left omm]
theorem put_item {w : World} {s : Sl} {l : List It} (ho : OwnK 0 tItem 4 w s (l.map itv)) {i : Nat} (hi : i < l.length) (x : It) :
  (padd s.a (i * 4)).isSome = true ∧ Wr w (padd s.a (i * 4)) 4 ∧ ∀ w', w' = setP w (padd s.a (i * 4)) (itv x) → OwnK 0 tItem 4 w' s ((l.set i x).map itv) ∧ Mod (fun b => s.blk = some b) w w' := by
 obtain ⟨h1, h2, h3, h4, h5⟩ := ho.put (i := i) (r := itv x) (by simpa using hi) dcc rfl (itv_one x)
 refine ⟨h1, h2, fun w' e => ?_⟩
 subst e
 exact ⟨by rw [alj36]; exact h3, h4.os, h4.tape, h4.output, h4.size, fun j _ hn => h5 j hn⟩
theorem DeleteFunc_spec {w : World} {s : Sl} {l : List It} {b : Nat} {c : Cl} (ho : OwnK 0 tItem 4 w s (l.map itv)) (hb : Row w b (clv c) tCell) (hl : l.length ≤ 5000) :
  Cal 321 #[s, .func (.func 322) #[] #[.pointer (some ⟨b, 0, none⟩)]] w fun e w' => ∃ s' : Sl, e = s' ∧ OwnK 0 tItem 4 w' s' ((qdrop l c).map itv) ∧ Mod (fun b => s.blk = some b) w w' ∧ s'.blk = s.blk := by
 have hn : s.n = l.length := by rw [(ho.rd dcc).n, ali01]
 have hsb : s.blk ≠ some b := fun e => by
  rcases ho.form dcc with ⟨hs, hnil⟩ | ⟨g0, cs, ha, hg0, hr, hc, hnc, ht, hn'⟩
  ·rw [hs] at e; cases e
  ·have : g0 = b := by unfold Sl.blk at e; rw [ha] at e; simpa using e
   exact hr.ne hb dcc this
 apply slices_DeleteFunc_Item.vc
 refine (Index_spec (ho.rd dcc) hb hl).mono ?_
 rintro e w1 ⟨⟨i, rfl, hi⟩, x1⟩
 refine ⟨i, rfl, Br.mk (fun h => ?_) (fun h => ?_)⟩
 ·have hm : i = -1 := by simpa using h
  rcases hi with ⟨-, hall⟩ | ⟨k, hk, -⟩
  ·refine ⟨s, rfl, ?_, Mod.of_ext x1, rfl⟩
   have : qdrop l c = l := by
    unfold qdrop; rw [alj19]; intro x hx; simpa using hall x hx
   rw [this]; exact ho.ext x1
  ·omega
 ·have hm : i ≠ -1 := by simpa using h
  rcases hi with ⟨hi, -⟩ | ⟨k, rfl, hk, hfst, hkc⟩
  ·exact absurd hi hm
  have hw := wkS (j := k)
  have hq : qdrop (l.take (k + 1)) c = l.take k := by
   unfold qdrop
   rw [ali09, ali38]
   have e1 : (l.take k).filter (fun x => x.2 != c) = l.take k := by rw [alj19]; intro x hx; simpa using hfst x hx
   have hget : l[k]? = some (l[k]'hk) := ali04 hk
   have := hkc _ hget
   rw [e1, hget]; simp [this]
  refine ⟨fun n a d wr => Mod (fun b => s.blk = some b) w wr ∧ ∃ (j m : Nat) (l' : List It), a = j ∧ d = m ∧ j + n = l.length ∧ m < j ∧ m = (qdrop (l.take j) c).length ∧ OwnK 0 tItem 4 wr s (l'.map itv) ∧ l'.length = l.length ∧ l'.take m = qdrop (l.take j) c ∧ l'.drop j = l.drop j, ⟨l.length - (k + 1), Mod.of_ext x1, k + 1, k, l, hw, rfl, by omega, by omega, ?_, ho.ext x1, rfl, hq.symm, rfl⟩, ?_⟩
  ·rw [hq, ali12]; omega
  rintro n us a d wr ⟨hmod, j, m, l', rfl, rfl, h1, h2, h3, ho', h4, h5, h6⟩
  have hbr : Row wr b (clv c) tCell := hmod.row hb hsb
  refine Br.mk (fun hlt => ?_) (fun hge => ?_)
  ·replace hlt := q0T hlt
   have hget : l[j]? = some (l[j]'omm) := ali04 omm
   generalize l[j]'omm = y at hget
   have hget' : l'[j]? = some y := by
    have := congrArg (fun q : List It => q[0]?) h6
    simpa [alj24, hget] using this
   refine ⟨⟨(ho'.rd dcc).isSome dcc (i := j) (by simp; omega), by omega, by omega⟩, y.1, y.2.1, y.2.2.1, y.2.2.2, RdK.item (ho'.rd dcc) hget', ?_⟩
   intro w13 e13 w14 e14
   have x14 : Ext wr w14 := (Ext.rfl' wr |>.of_alloc e13).of_setRow e14 (ali34 _)
   have hs14 : wr.heap.size < w14 := by rw [e14, setRow_size, e13]; simp
   refine callV_of (by kernel_rfl) rfl ((drop1_spec y (hbr.ext x14)).mono ?_)
   rintro e w2 ⟨rfl, x2⟩
   have x3 := x14.tr x2
   have hwj := wkS (j := j)
   have hwm := wkS (j := m)
   have hqj : qdrop (l.take (j + 1)) c = qdrop (l.take j) c ++ (if y.2 = c then [] else [y]) := by
    unfold qdrop
    rw [ali09, hget, ali38]
    congr 1
    by_cases hy : y.2 = c <;> simp [hy]
   refine ⟨_, rfl, x2.heap hs14, Br.mk (fun hb2 => ?_) (fun hb2 => ?_)⟩
   ·have hy : y.2 ≠ c := by simpa using hb2
    obtain ⟨p1, p2, p3⟩ := put_item (ho'.ext x3) (i := m) omm y
    refine ⟨⟨(ho'.rd dcc).isSome dcc (i := m) (by simp; omega), by omega, by omega⟩, ⟨p1, p2⟩, ?_, ?_⟩
    ·rw [pblk_padd]
     intro e
     have := ho'.own.lt (g := wr.heap.size) e
     omega
    ·intro w17 e17
     obtain ⟨q1, q2⟩ := p3 w17 e17
     rw [hwj, hwm]
     refine ⟨n - 1, by omega, (hmod.trans (Mod.of_ext x3)).trans q2, j + 1, m + 1, l'.set m y, rfl, rfl, by omega, by omega, ?_, q1, by rw [ali31, h4], ?_, ?_⟩
     ·rw [hqj, if_neg hy, ali07, ← h3]; rfl
     ·rw [hqj, if_neg hy, ← h5, ali09, List.take_set_of_le (ali34 _), ali32 omm]; rfl
     ·rw [List.drop_set_of_lt omm]
      have := congrArg (List.drop 1) h6
      simpa [List.drop_drop] using this
   ·have hy : y.2 = c := by simpa using hb2
    rw [hwj]
    refine ⟨n - 1, by omega, hmod.trans (Mod.of_ext x3), j + 1, m, l', rfl, rfl, by omega, by omega, ?_, ho'.ext x3, h4, ?_, ?_⟩
    ·rw [hqj, if_pos hy, ali44]; exact h3
    ·rw [hqj, if_pos hy, ali44]; exact h5
    ·have := congrArg (List.drop 1) h6
     simpa [List.drop_drop] using this
  ·replace hge := q0F hge
   have hj : j = l.length := by omega
   have hcap := (ho'.form dcc)
   have hnc : s.n ≤ s.c := by
    rcases hcap with ⟨hs, -⟩ | ⟨g0, cs, ha, hg0, hr, hc, hnc, ht, hn'⟩
    ·rw [hs]; exact ali34 _
    ·exact hnc
   obtain ⟨p1, p2⟩ := clear_tail ho' (i := m) omm
   refine ⟨by omega, by omega, p1, fun w18 e18 => ?_⟩
   obtain ⟨q1, q2⟩ := p2 w18 e18
   refine ⟨by omega, by omega, ⟨s.a, m, s.c⟩, ?_, ?_, hmod.trans q2, rfl⟩
   ·rw [slBase_zero]; rfl
   ·rw [h5, hj, ali26] at q1; exact q1
end Go.Proofs.YtjcnjlaelhdjeaaGreatDoor.Q
namespace Go.Proofs.YtjcnjlaelhdjeaaGreatDoor.Q
open Go Go.Vc Go.RowKit Go.Proofs Go.Que
set_option maxRecDepth 100000
def Foot (g m : Nat) (s : Sl) : Nat → Prop := fun i => i = g ∨ i = m ∨ s.blk = some i
abbrev qcells (q : QS) (s : Sl) (m : Nat) : LV := [.int .i64 q.room, .int .i64 q.lost, .slice s.a s.n s.c, .map (some m)]
def Ticks (kvs : List (Value × Value)) (l : List It) : Prop := (∀ c t, (cv c, tv t) ∈ kvs ↔ (t, c) ∈ l) ∧ ∀ e ∈ kvs, ∃ c t, e = (cv c, tv t)
structure QIs (w : World) (g m : Nat) (s : Sl) (q : QS) : Prop where
 row : Row w g (qcells q s m) tQueue
 own : OwnK 0 tItem 4 w s (q.l.map itv)
 map : ∃ kvs, MapIs GC w (some m) kvs ∧ Ticks kvs q.l
theorem QIs.no_row {w : World} {g m : Nat} {s : Sl} {q : QS} (h : QIs w g m s q) {b : Nat} {cs : LV} {E : TypeId} (hb : Row w b cs E) (h1 : E ≠ tQueue) (h2 : E ≠ tItem) : ¬ Foot g m s b := by
 rintro (rfl | rfl | e)
 ·exact hb.ne h.row h1 rfl
 ·obtain ⟨kvs, hm, -⟩ := h.map
  exact hb.ne_map hm rfl
 ·obtain ⟨cs', hr⟩ := own_row h.own dcc e
  exact hb.ne hr h2 rfl
theorem QIs.no_own {w : World} {g m : Nat} {s : Sl} {q : QS} (h : QIs w g m s q) {B E k : Nat} {s' : Sl} {rows : List (LV)} (ho : OwnK B E k w s' rows) (hk : 0 < k) (h1 : E ≠ tQueue) (h2 : E ≠ tItem) : ∀ b, s'.blk = some b → ¬ Foot g m s b := fun b hb => by
 obtain ⟨cs, hr⟩ := own_row ho hk hb
 exact h.no_row hr h1 h2
theorem QIs.lt {w : World} {g m : Nat} {s : Sl} {q : QS} (h : QIs w g m s q) : ∀ i, Foot g m s i → i < w.heap.size := by
 rintro i (rfl | rfl | e)
 ·exact h.row.lt
 ·obtain ⟨kvs, hm, -⟩ := h.map
  exact hm.lt
 ·exact (h.own.own.lt e).2
theorem QIs.keep {w w' : World} {g m : Nat} {s : Sl} {q : QS} (h : QIs w g m s q) {F : Nat → Prop} (hm : Mod F w w') (hn : ∀ i, Foot g m s i → ¬ F i) : QIs w' g m s q := by
 obtain ⟨kvs, h1, h2⟩ := h.map
 exact ⟨hm.row h.row (hn g (.inl rfl)), hm.ownK h.own fun b hb => hn b (.inr (.inr hb)), kvs, hm.map h1 (hn m (.inr (.inl rfl))), h2⟩
theorem QIs.ext {w w' : World} {g m : Nat} {s : Sl} {q : QS} (h : QIs w g m s q) (x : Ext w w') : QIs w' g m s q :=
 h.keep (F := fun _ => False) ⟨x.os, x.tape, x.output, x.size, fun i hi _ => x.heap hi⟩ fun _ _ hf => hf
theorem QIs.g_ne_m {w : World} {g m : Nat} {s : Sl} {q : QS} (h : QIs w g m s q) : g ≠ m := by
 obtain ⟨kvs, hm, -⟩ := h.map
 exact h.row.ne_map hm
theorem QIs.s_ne_m {w : World} {g m : Nat} {s : Sl} {q : QS} (h : QIs w g m s q) : s.blk ≠ some m := fun e => by
 obtain ⟨kvs, hm, -⟩ := h.map
 obtain ⟨cs, hr⟩ := own_row h.own dcc e
 exact hr.ne_map hm rfl
theorem QIs.s_ne_g {w : World} {g m : Nat} {s : Sl} {q : QS} (h : QIs w g m s q) : s.blk ≠ some g := fun e => by
 obtain ⟨cs, hr⟩ := own_row h.own dcc e
 exact hr.ne h.row dcc rfl
theorem Ticks.look {kvs : List (Value × Value)} {l : List It} (h : Ticks kvs l) (hn : (l.map (·.2)).Nodup) (c : Cl) : Look kvs (cv c) (tv 0) (tv ((qtick l c).getD 0)) (qtick l c).isSome := by
 cases hq : qtick l c with
 | some t => exact .inl ⟨rfl, (h.1 c t).2 (qtick_some hq)⟩
 | none =>
   refine .inr ⟨rfl, rfl, fun e he hk => ?_⟩
   obtain ⟨c', t, rfl⟩ := h.2 e he
   exact qtick_none hq (t, c') ((h.1 _ _).1 he) (cv_inj hk)
open Classical in
theorem Ticks.del {kvs : List (Value × Value)} {l : List It} (h : Ticks kvs l) (c : Cl) : Ticks (delL kvs (cv c)) (qdrop l c) := by
 refine ⟨fun c' t => ?_, fun e he => h.2 e (alj40.1 he).1⟩
 unfold delL qdrop
 rw [alj40, alj40, h.1]
 refine and_congr_right fun _ => ?_
 rw [bne_iff_ne]
 refine decide_eq_true_iff.trans ?_
 exact not_congr ⟨fun e => cv_inj e, fun e => by rw [show c' = c from e]⟩
theorem Ticks.ins {kvs : List (Value × Value)} {l : List It} (h : Ticks kvs l) {x : It} (hx : ∀ y ∈ l, y.2 ≠ x.2) : Ticks (insL kvs (cv x.2) (tv x.1)) (qins l x) := by
 unfold insL
 rw [if_neg]
 ·refine ⟨fun c t => ?_, fun e he => ?_⟩
  ·rw [ali25, h.1, qins_mem, alj46]
   constructor
   ·rintro (h1 | h1)
    ·exact .inr h1
    ·obtain ⟨e1, e2⟩ := Prod.mk.inj h1
     have := cv_inj e1
     have h2 : t = x.1 := by unfold tv at e2; injection e2
     left; rw [this, h2]
   ·rintro (h1 | h1)
    ·right; rw [← h1]
    ·exact .inl h1
  ·rcases ali25.1 he with he | he
   ·exact h.2 e he
   ·rw [alj46] at he; exact ⟨_, _, he⟩
 ·rintro ⟨e, he, hk⟩
  obtain ⟨c', t, rfl⟩ := h.2 e he
  exact hx (t, c') ((h.1 _ _).1 he) (cv_inj hk)
theorem New_spec (room : Int) (w : World) : Cal 174 #[room] w fun e w' => ∃ g m, e = Value.pointer (pzq g) ∧ QIs w' g m ⟨none, 0, 0⟩ ⟨min (max room 1) 4096, 0, []⟩ ∧ Ext w w' ∧ w.heap.size ≤ g ∧ w.heap.size ≤ m := by
 apply queue_New.vc
 intro w0 e0 w1 e1
 have hm : MapIs GC w0 (some w.heap.size) [] := by rw [e0]; exact MapIs.new
 have x1 := eaa e1
 refine ⟨w0.heap.size, w.heap.size, rfl, ⟨?_, OwnK.nil, [], ?_, by simp [Ticks]⟩, (eaa e0).tr x1, ?_, ali34 _⟩
 ·have : (min (max room 1) 4096) = (if 4096 < (if 1 > room then 1 else room) then 4096 else (if 1 > room then 1 else room)) := by
   split <;> split <;> omega
  rw [e1, this]
  exact Row.new w0 [_, _, _, _] _
 ·exact hm.same (x1.heap hm.lt)
 ·rw [e0]; simp
theorem At_spec {w : World} {g m : Nat} {s : Sl} {q : QS} (h : QIs w g m s q) (hq : QOk q) (c : Cl) : Cal 273 #[g, cv c] w fun e w' => e = Value.tuple #[.int .i64 ((qtick q.l c).getD 0), .bool (qtick q.l c).isSome] ∧ Ext w w' := by
 apply queue_Queue_At.vc
 intro w0 e0
 have x0 : Ext w w0.drew := (Ext.rfl' w |>.of_alloc e0).drew
 have h0 := h.ext x0
 obtain ⟨kvs, hm, ht⟩ := h0.map
 exact ⟨some m, h0.row.at 3 rfl, GC, kvs, cellKey, hm, ⟨c, rfl⟩, _, _, ht.look hq.nodup c, rfl, x0⟩
end Go.Proofs.YtjcnjlaelhdjeaaGreatDoor.Q
namespace Go.Proofs.YtjcnjlaelhdjeaaGreatDoor.Q
open Go Go.Vc Go.RowKit Go.Proofs Go.Que
set_option maxRecDepth 100000
theorem Foot.turned {g m : Nat} {s s' : Sl} {w w' : World} (hm : Mod (Foot g m s) w w') (hs : ∀ b, s'.blk = some b → s.blk = some b ∨ w.heap.size ≤ b) : Turned (Foot g m s) (Foot g m s') w w' :=
 ⟨hm, fun i hi => by
  rcases hi with h | h | h
  ·exact .inl (.inl h)
  ·exact .inl (.inr (.inl h))
  ·rcases hs i h with h | h
   ·exact .inl (.inr (.inr h))
   ·exact .inr h⟩
theorem push_spec {w : World} {g m : Nat} {s : Sl} {q : QS} (h : QIs w g m s q) (hsort : q.l.Pairwise fun a b => a.1 ≤ b.1) (hl : q.l.length ≤ 4998) {x : It} (hx : ∀ y ∈ q.l, y.2 ≠ x.2) :
  Cal 275 #[g, .agg (itv x).toArray] w fun e w' => e = tqq ∧ ∃ s', QIs w' g m s' { q with l := qins q.l x } ∧ Turned (Foot g m s) (Foot g m s') w w' := by
 apply queue_Queue_push.vc
 intro w0 e0
 have x0 := eaa e0
 have hs0 := hs1 e0
 have h0 := h.ext (x0.drew)
 refine ⟨s, h0.row.at 2 rfl, ?_⟩
 refine (Bin_spec x (h0.own.rd dcc) hsort omm).mono ?_
 rintro e w2 ⟨⟨b, rfl⟩, x2⟩
 refine ⟨_, b, rfl, x2.heap (show w.heap.size < w0 by omega), ?_⟩
 have h2 := (h0.ext x2).ext (Ext.dr _)
 refine ⟨s, h2.row.at 2 rfl, ?_⟩
 intro w6 e6
 have x6 := eaa e6
 have h6 := h2.ext x6
 have hrow : Row w6 w2.drew.heap.size (itv x) tItem := by rw [e6]; exact Row.new _ _ _
 have hz2 := x2.size
 have hsz : w.heap.size < w2.drew.heap.size := ali35 (show w.heap.size < w0 by omega) hz2
 have hk := (List.takeWhile_sublist (fun y : It => decide (y.1 ≤ x.1)) (l := q.l)).length_le
 have hsb : s.blk ≠ some w2.drew.heap.size := fun e => by
  have := h2.lt _ (.inr (.inr e)); omega
 refine (Insert_spec h6.own hrow hk omm hsb).mono ?_
 rintro e w7 ⟨s8, rfl, ho8, hm8, hs8⟩
 have hbox : s.blk ≠ some w.heap.size := fun e => by
  have := h.lt _ (.inr (.inr e)); omega
 have x06 : Ext w w6 := ((x0.drew).tr x2).tr ((Ext.dr _).tr x6)
 refine ⟨s8, rfl, hm8.same _ (by have := x6.size; omega) hbox, ?_⟩
 have hr7 : Row w7 g (qcells q s m) tQueue := hm8.row h6.row h6.s_ne_g
 obtain ⟨p1, p2⟩ := hr7.put1 (j := 2) (v := .slice s8.a s8.n s8.c) smm rfl
 refine ⟨⟨rfl, p1⟩, ?_, ?_⟩
 ·rw [pblk_padd]
  intro e
  have := h.row.lt
  have : g = w.heap.size := by simpa [pblk] using e
  omega
 intro w9 e9
 obtain ⟨q1, q2⟩ := p2 w9 e9
 have x9 := Ext.dr w9
 have hr9 := q1.ext x9
 refine ⟨some m, hr9.at 3 rfl, ?_⟩
 obtain ⟨kvs, hmap, ht⟩ := h6.map
 have hmap9 : MapIs GC w9.drew (some m) kvs := (Mod.of_ext (F := fun _ => False) x9).map (q2.map (hm8.map hmap h6.s_ne_m) (Ne.symm h.g_ne_m)) smm
 refine ⟨GC, kvs, cellKey, rfl, hmap9, ⟨x.2, rfl⟩, ?_⟩
 intro w13 hrec hmap13
 have hm13 := Mod.of_rec hrec
 refine ⟨rfl, s8, ⟨?_, ?_, _, hmap13, ht.ins hx⟩, Foot.turned ?_ ?_⟩
 ·exact hm13.row hr9 h.g_ne_m
 ·have he := qins_eq q.l x
  rw [he] at ho8
  have hrow8 := fun b hb => own_row ho8 dcc (b := b) hb
  refine hm13.ownK ((q2.ownK ho8 fun b hb hf => ?_).ext x9) fun b hb hf => ?_
  ·obtain ⟨cs, hr⟩ := hrow8 b hb
   exact hr.ne hr7 dcc hf
  ·obtain ⟨cs, hr⟩ := hrow8 b hb
   exact hr.ne_map (hm8.map hmap h6.s_ne_m) hf
 ·refine ((((Mod.of_ext x06).trans (hm8.mono fun b _ hb => .inr (.inr hb))).trans (q2.mono fun b _ hb => .inl hb)).trans (Mod.of_ext x9)).trans (hm13.mono fun b _ hb => .inr (.inl hb))
 ·intro b hb
  rcases hs8 b hb with h1 | h1
  ·exact .inl h1
  ·exact .inr (ali41 x06.size h1)
theorem Drop_spec {w : World} {g m : Nat} {s : Sl} {q : QS} (h : QIs w g m s q) (hq : QOk q) (c : Cl) :
  Cal 274 #[g, cv c] w fun e w' => e = Value.bool (qtick q.l c).isSome ∧ ∃ s', QIs w' g m s' { q with l := qdrop q.l c } ∧ Turned (Foot g m s) (Foot g m s') w w' := by
 apply queue_Queue_Drop.vc
 intro w0 e0
 have x0 := eaa e0
 have hbox0 : Row w0 w (clv c) tCell := by rw [e0]; exact Row.new _ _ _
 have h0 := h.ext x0.drew
 obtain ⟨kvs, hm, ht⟩ := h0.map
 refine ⟨some m, h0.row.at 3 rfl, GC, kvs, cellKey, hm, ⟨c, rfl⟩, _, _, ht.look hq.nodup c, Br.mk (fun hb => ?_) (fun hb => ?_)⟩
 ·have hn : qtick q.l c = none := by simpa using hb
  refine ⟨by rw [hn]; rfl, s, ?_, Turned.of_ext x0.drew⟩
  have : qdrop q.l c = q.l := by
   unfold qdrop; rw [alj19]; intro y hy; simpa using qtick_none hn y hy
  rw [this]; exact h0
 ·have hsome : (qtick q.l c).isSome = true := by simpa using hb
  have h1 := h0.ext (Ext.dr _)
  refine ⟨some m, h1.row.at 3 rfl, GC, kvs, cellKey, rfl, (Mod.of_ext (F := fun _ => False) (Ext.dr _)).map hm smm, ⟨c, rfl⟩, ?_⟩
  intro w9 hrec hmap9
  have hm9 := Mod.of_rec hrec
  have hr9 : Row w9 g (qcells q s m) tQueue := hm9.row h1.row h.g_ne_m
  refine ⟨s, hr9.at 2 rfl, ?_⟩
  have hlen := hq.len
  have hroom := hq.room
  have hbox9 : Row w9 w (clv c) tCell := hm9.row (hbox0.ext (Ext.dr _ |>.tr (Ext.dr _))) (fun e => by
   have : w.heap.size = m := e
   have := h.lt m (.inr (.inl rfl)); omega)
  have ho9 : OwnK 0 tItem 4 w9 s (q.l.map itv) := hm9.ownK h1.own fun b hb hf => h1.s_ne_m (by rw [hb]; exact congrArg some hf)
  refine (DeleteFunc_spec ho9 hbox9 omm).mono ?_
  rintro e w11 ⟨s12, rfl, ho12, hm12, hs12⟩
  have hsm : s.blk ≠ some m := h.s_ne_m
  have hr11 : Row w11 g (qcells q s m) tQueue := hm12.row hr9 h.s_ne_g
  obtain ⟨p1, p2⟩ := hr11.put1 (j := 2) (v := .slice s12.a s12.n s12.c) smm rfl
  refine ⟨s12, rfl, ⟨rfl, p1⟩, fun w13 e13 => ?_⟩
  obtain ⟨q1, q2⟩ := p2 w13 e13
  refine ⟨by rw [hsome], s12, ⟨q1, ?_, _, q2.map (hm12.map hmap9 hsm) (Ne.symm h.g_ne_m), ht.del c⟩, Foot.turned ?_ ?_⟩
  ·refine q2.ownK ho12 fun b hb hf => ?_
   obtain ⟨cs, hr⟩ := own_row ho12 dcc hb
   exact hr.ne hr11 dcc hf
  ·exact (((Mod.of_ext (x0.drew.drew)).trans (hm9.mono fun b _ hb => .inr (.inl hb))).trans (hm12.mono fun b _ hb => .inr (.inr hb))).trans (q2.mono fun b _ hb => .inl hb)
  ·intro b hb; exact .inl (hs12 ▸ hb)
end Go.Proofs.YtjcnjlaelhdjeaaGreatDoor.Q
namespace Go.Proofs.YtjcnjlaelhdjeaaGreatDoor.Q
open Go Go.Vc Go.RowKit Go.Proofs Go.Que
set_option maxRecDepth 100000
theorem Add_spec {w : World} {g m : Nat} {s : Sl} {q : QS} (h : QIs w g m s q) (hq : QOk q) (hl : 0 ≤ q.lost ∧ q.lost ≤ 1000000) (c : Cl) (t : Int) :
  Cal 219 #[g, cv c, t] w fun e w' => e = Value.bool (qadd q c t).2 ∧ ∃ s', QIs w' g m s' (qadd q c t).1 ∧ Turned (Foot g m s) (Foot g m s') w w' := by
 apply queue_Queue_Add.vc
 intro w0 e0
 have x0 := eaa e0
 have hs0 := hs1 e0
 have h0 := h.ext x0
 have hn : s.n = q.l.length := by rw [(h.own.rd dcc).n, ali01]
 have hlen := hq.len
 have hroom := hq.room
 have hbg : g < w := h.row.lt
 have hbf : ∀ {s' : Sl} {w1 w' : World}, w.heap.size < w1 → Turned (Foot g m s) (Foot g m s') w1 w' → w'.heap[w.heap.size]? = w1.heap[w.heap.size]? := fun hlt ht =>
  ht.mod.same _ hlt fun hf => by have := h.lt _ hf; omega
 refine (At_spec h0 hq c).mono ?_
 rintro e w1 ⟨rfl, x1⟩
 have h1 := h0.ext x1
 have x01 := x0.tr x1
 have hz1 : w.heap.size < w1 := by have := x1.size; omega
 refine ⟨_, _, rfl, x1.heap (show w.heap.size < w0 by omega), Br.mk (fun hb => ?_) (fun hb => ?_)⟩
 ·obtain ⟨was, hw⟩ := ali29.1 hb
  have hg : (qtick q.l c).getD 0 = was := by rw [hw]; rfl
  rw [hg]
  refine Br.mk (fun hc => ?_) (fun hc => Br.mk (fun _ => ?_) (fun hn => by rw [hb] at hn; cases hn))
  ·replace hc := q0T hc
   have e : qadd q c t = (q, false) := by unfold qadd; rw [hw]; simp [hc]
   rw [e]
   exact ⟨rfl, s, h1, Turned.of_ext x01⟩
  ·replace hc := q0F hc
   have e : qadd q c t = ({ q with l := qins (qdrop q.l c) (t, c) }, true) := by unfold qadd; rw [hw]; simp [hc]
   rw [e]
   refine (Drop_spec h1 hq c).mono ?_
   rintro e w4 ⟨rfl, s4, h4, t4⟩
   refine ⟨_, rfl, hbf hz1 t4, ?_⟩
   have hq4 := hq.drop c
   have hl4 := hq4.len
   have hz4 := t4.mod.size
   refine (push_spec (x := (t, c)) h4 hq4.sorted (by simp only at hl4 ⊢; omega) (fun y hy => by
    have := (alj40.1 hy).2
    simpa using this)).mono ?_
   rintro e w6 ⟨rfl, s6, h6, t6⟩
   refine ⟨rfl, t6.mod.same _ omm (fun hf => ?_), rfl, s6, h6, ((Turned.of_ext x01).trans t4).trans t6⟩
   rcases t4.sub _ hf with hf | hf
   ·have := h.lt _ hf; omega
   ·omega
 ·refine Br.mk (fun hb' => by rw [hb] at hb'; cases hb') (fun _ => ?_)
  have hw : qtick q.l c = none := by simpa using hb
  have h1d := h1.ext (Ext.dr w1)
  refine ⟨s, h1d.row.at 2 rfl, q.room, h1d.row.at 0 rfl, ?_⟩
  rw [hn]
  apply Br.mk <;> intro hc
  ·have hc' : ((q.l.length : Nat) : Int) = q.room := by simpa using hc
   have e : qadd q c t = ({ q with lost := q.lost + 1 }, false) := by unfold qadd; rw [hw]; simp [hc']
   rw [e]
   obtain ⟨p1, p2⟩ := h1d.row.put1 (j := 1) (v := .int .i64 (wqq (q.lost + 1))) smm rfl
   refine ⟨q.lost, h1d.row.at 1 rfl, ⟨rfl, p1⟩, ?_, fun w10 e10 => ?_⟩
   ·rw [pblk_padd]
    intro e
    have : g = w.heap.size := by simpa [pblk] using e
    omega
   ·obtain ⟨q1, q2⟩ := p2 w10 e10
    rw [wI] at q1
    obtain ⟨kvs, hm, ht⟩ := h1d.map
    refine ⟨rfl, s, ⟨q1, q2.ownK h1d.own fun b hb hf => h.s_ne_g (by rw [hb]; exact congrArg some hf), kvs, q2.map hm (Ne.symm h.g_ne_m), ht⟩, (Turned.of_ext x01.drew).trans (Foot.turned (q2.mono fun b _ hb => .inl hb) fun b hb => .inl hb)⟩
  ·have hc' : ((q.l.length : Nat) : Int) ≠ q.room := by simpa using hc
   have e : qadd q c t = ({ q with l := qins q.l (t, c) }, true) := by
    unfold qadd; rw [hw]
    have : ¬ (q.l.length : Int) ≥ q.room := by omega
    simp only
    rw [if_neg this]
   rw [e]
   refine (push_spec (x := (t, c)) h1d hq.sorted omm (qtick_none hw)).mono ?_
   rintro e w6 ⟨rfl, s6, h6, t6⟩
   exact ⟨rfl, hbf hz1 t6, rfl, s6, h6, (Turned.of_ext x01.drew).trans t6⟩
theorem Put_spec {w : World} {g m : Nat} {s a : Sl} {q : QS} {xs : List It} (h : QIs w g m s q) (hq : QOk q) (hl : 0 ≤ q.lost ∧ q.lost + xs.length ≤ 1000000) (ha : RdK w a 4 (xs.map itv)) (hlt : ∀ b, a.blk = some b → b < w.heap.size) (hd : ∀ b, a.blk = some b → ¬ Foot g m s b) :
  Cal 249 #[g, a] w fun e w' => e = Value.int .i64 (qput q xs).2 ∧ ∃ s', QIs w' g m s' (qput q xs).1 ∧ Turned (Foot g m s) (Foot g m s') w w' := by
 have hn : a.n = xs.length := by rw [ha.n, ali01]
 apply queue_Queue_Put.vc
 refine ⟨fun n x y wr => ∃ (j k : Nat) (sr : Sl) (qr : QS), x = j ∧ y = k ∧ j + n = xs.length ∧ k ≤ j ∧ QIs wr g m sr qr ∧ QOk qr ∧ Turned (Foot g m s) (Foot g m sr) w wr ∧ 0 ≤ qr.lost ∧ qr.lost ≤ q.lost + j ∧ (qput qr (xs.drop j)).1 = (qput q xs).1 ∧ k + (qput qr (xs.drop j)).2 = (qput q xs).2,
  ⟨xs.length, 0, 0, s, q, rfl, rfl, by omega, ali34 _, h, hq, Turned.refl _ _, hl.1, by omega, rfl, by simp⟩, ?_⟩
 rintro n us x y wr ⟨j, k, sr, qr, rfl, rfl, h1, h2, hqr, hok, ht, h3, h4, h5, h6⟩
 have har : RdK wr a 4 (xs.map itv) := ht.mod.rdK dcc ha fun _ b hb => hd b hb
 apply Br.mk <;> intro hc
 ·replace hc := q0T hc
  have hget : xs[j]? = some (xs[j]'omm) := ali04 omm
  have hdrop : xs.drop j = xs[j]'omm :: xs.drop (j + 1) := alj11 omm
  generalize xs[j]'omm = z at hget hdrop
  refine ⟨⟨har.isSome dcc (i := j) (by simp; omega), by omega, by omega⟩, z.1, z.2.1, z.2.2.1, z.2.2.2, RdK.item har hget, ?_⟩
  intro w11 e11 w12 e12
  have x12 : Ext wr w12 := (Ext.rfl' wr |>.of_alloc e11).of_setRow e12 (ali34 _)
  have hs12 : wr.heap.size < w12 := by rw [e12, setRow_size, e11]; simp
  refine (Add_spec (hqr.ext x12) hok ⟨h3, by omega⟩ z.2 z.1).mono ?_
  rintro e w13 ⟨rfl, s13, h13, t13⟩
  have hlo := qadd_lost qr z.2 z.1
  have hwj := wkS (j := j)
  have hwk := wkS (j := k)
  rw [hdrop] at h5 h6
  simp only [qput] at h5 h6
  have ht' := (ht.trans (Turned.of_ext x12)).trans t13
  refine ⟨_, rfl, t13.mod.same _ hs12 (fun hf => ?_), Br.mk (fun hb => ?_) (fun hb => ?_)⟩
  ·have := hqr.lt _ hf; omega
  ·rw [hb] at h6
   simp only [if_true] at h6
   rw [hwj, hwk]
   exact ⟨n - 1, by omega, j + 1, k + 1, s13, _, rfl, rfl, by omega, by omega, h13, hok.add _ _, ht', by omega, by omega, h5, by omega⟩
  ·rw [hb] at h6
   simp only [Bool.false_eq_true, if_false] at h6
   rw [hwj]
   exact ⟨n - 1, by omega, j + 1, k, s13, _, rfl, rfl, by omega, by omega, h13, hok.add _ _, ht', by omega, by omega, h5, by omega⟩
 ·replace hc := q0F hc
  have hj : j = xs.length := by omega
  rw [hj, List.drop_length] at h5 h6
  simp only [qput] at h5 h6
  refine ⟨by rw [← h6]; rfl, sr, ?_, ht⟩
  rw [← h5]; exact hqr
end Go.Proofs.YtjcnjlaelhdjeaaGreatDoor.Q
namespace Go.Proofs.YtjcnjlaelhdjeaaGreatDoor.Q
open Go Go.Vc Go.RowKit Go.Proofs Go.Que
set_option maxRecDepth 100000
end Go.Proofs.YtjcnjlaelhdjeaaGreatDoor.Q
namespace Go.Proofs.YtjcnjlaelhdjeaaGreatDoor
open Go Go.Vc Go.RowKit Go.Proofs Go.Chk Go.Runs Go.Code
theorem crcStep_spec (v : W16) (w : World) : Cal 398 #[.int .u16 (cI v)] w fun e w' => e = Value.int .u16 (cI (st1 v)) ∧ w' = w := by
 apply crc_steps_1.vc
 have e1 : w16q (cI v * 2 ^ (min (1 : Int).toNat 16)) = cI (v <<< 1) := w_shl v 1
 have e2 : bAnd .u16 (cI v) 32768 = cI (v &&& 0x8000#16) := bAnd16 v 0x8000#16
 have e3 : bXor .u16 (cI (v <<< 1)) 4129 = cI ((v <<< 1) ^^^ 0x1021#16) := bXor16 _ 0x1021#16
 apply Br.mk <;> intro h
 ·rw [e2] at h
  have hm : v.msb = true := by
   cases q : v.msb with
   | true => rfl
   | false => rw [(and_msb v).2 q] at h; simp at h
  rw [e1, e3]
  unfold st1
  rw [if_pos hm]; exact ⟨rfl, rfl⟩
 ·rw [e2] at h
  have hm : v.msb = false := (and_msb v).1 (by simpa using h)
  rw [e1]
  unfold st1
  rw [hm]; exact ⟨rfl, rfl⟩
abbrev tA16 : TypeId := 417
abbrev tA2 : TypeId := 396
def itS : Nat → W16 → W16
 | 0, v => v
 | k + 1, v => st1 (itS k v)
theorem crcSteps_spec (w : World) : Cal 394 #[] w fun e w' => e = Value.agg tS.toArray ∧ Ext w w' := by
 apply crc_steps.vc
 intro w0 e0 w1 e1
 have z0 := hs1 e0
 have x1 : Ext w w1 := (eaa e0).of_alloc e1
 have ha : Row w1 w (tT 0) tA16 := (by rw [e0]; exact Row.new w (tT 0) _ : Row w0 w (tT 0) tA16).ext (eaa e1)
 have hb : Row w1 w0 (tT 0) tA16 := by rw [e1]; exact Row.new w0 (tT 0) _
 refine ⟨fun n i wr => ∃ k : Nat, i = k ∧ k + n = 16 ∧ Row wr w (tT 0) tA16 ∧ Row wr w0 (tT k) tA16 ∧ Ext w wr, ⟨16, 0, rfl, rfl, ha, hb, x1⟩, ?_⟩
 rintro n3 us4 x5 w6 ⟨k, rfl, hk, ha6, hb6, x6⟩
 apply Br.mk <;> intro hc
 ·replace hc := q0T hc
  have ek : w16q (w16q (k : Int) * 2 ^ (min (12 : Int).toNat 16)) = cI (byW (k : Int) <<< 12) := by
   have : w16q (k : Int) = cI (byW (k : Int)) := by rw [cI_byW omm, wrap_u16]; omega
   rw [this]; exact w_shl _ 12
  rw [ek]
  refine ⟨fun n j c wr => ∃ m : Nat, j = m ∧ m + n = 4 ∧ c = cI (itS m (byW (k : Int) <<< 12)) ∧ wr = w6, ⟨4, 0, rfl, rfl, rfl, rfl⟩, ?_⟩
  rintro n9 us10 x11 x12 w13 ⟨m, rfl, hm, rfl, rfl⟩
  apply Br.mk <;> intro hc2
  ·replace hc2 := q0T hc2
   have wk := wkS (j := m)
   refine (crcStep_spec _ _).mono ?_
   rintro e w15 ⟨rfl, hw⟩
   exact ⟨_, rfl, n9 - 1, by omega, m + 1, wk, by omega, rfl, hw⟩
  ·replace hc2 := q0F hc2
   have hm4 : m = 4 := by omega
   subst hm4
   have wk := wkS (j := k)
   have hlen : (tT k).length = 16 := by
    unfold tT; rw [ali07, ali12, ali46]; simp [tS]; omega
   obtain ⟨p1, p2⟩ := hb6.put1 (j := k) (v := tv k) omm rfl
   have hj : ((k : Int)).toNat * 1 = k := by omega
   rw [hj]
   refine ⟨by omega, by omega, ⟨rfl, p1⟩, fun w17 e17 => ?_⟩
   obtain ⟨q1, q2⟩ := p2 w17 e17
   rw [show putCells (tT k) k [tv k] = (tT k).set k (tv k) from rfl, tT_set omm] at q1
   exact ⟨n3 - 1, by omega, k + 1, wk, by omega, q2.row ha6 (by have := x1.size; omega), q1, q2.ext x6 (by intro i hi; omega)⟩
 ·replace hc := q0F hc
  have : k = 16 := by omega
  subst this
  have hl : LoadL w6 (pzq w0.heap.size) 0 tS := hb6.loadL fun j hj => by rw [ali37]; rfl
  have hs := ha6.setP (o := 0) (vs := tS) dcc (by intro v hv; simp only [tS, ali16, ali36, or_false] at hv; rcases hv with rfl | rfl | rfl | rfl | rfl | rfl | rfl | rfl | rfl | rfl | rfl | rfl | rfl | rfl | rfl | rfl <;> rfl)
  refine ⟨_, _, _, _, _, _, _, _, _, _, _, _, _, _, _, _, hl, ⟨rfl, ha6.wr (o := 0) (n := 16) dcc⟩, fun w34 e34 => ?_⟩
  have e34' : w34 = w6.setRow w tS.toArray := e34.trans hs
  have hr : Row w34 w tS tA16 := by rw [e34']; exact ha6.set tS
  have hl2 : LoadL w34 (pzq w.heap.size) 0 tS := hr.loadL fun j hj => by rw [ali37]
  exact ⟨_, _, _, _, _, _, _, _, _, _, _, _, _, _, _, _, hl2, rfl, x6.of_setRow e34' (ali34 _)⟩
theorem crcWith_spec (v : W16) (s : Sl) (b : List Int) (w : World) (hs : RdY w s b) (hb : Bys b) (hn : (b.length : Int) ≤ 1099511627776) : Cal 388 #[.int .u16 (cI v), s] w fun e w' => e = Value.int .u16 (cI (crcF v b)) ∧ Ext w w' := by
 apply (crc_Check_With.vc (a1 := s))
 refine (crcSteps_spec w).mono ?_
 rintro e w0 ⟨rfl, x0⟩
 refine ⟨_, _, _, _, _, _, _, _, _, _, _, _, _, _, _, _, rfl, fun w17 e17 => ?_⟩
 have hr17 : Row w17 w0 (tT 0) tA16 := by rw [e17]; exact Row.new w0 (tT 0) _
 have hS := hr17.setP (o := 0) (vs := tS) dcc (by intro v hv; simp only [tS, ali16, ali36, or_false] at hv; rcases hv with rfl | rfl | rfl | rfl | rfl | rfl | rfl | rfl | rfl | rfl | rfl | rfl | rfl | rfl | rfl | rfl <;> rfl)
 refine ⟨⟨rfl, hr17.wr (o := 0) (n := 16) dcc⟩, fun w18 e18 => ?_⟩
 have e18' : w18 = w17.setRow w0 tS.toArray := e18.trans hS
 have hr : Row w18 w0 tS tA16 := by rw [e18']; exact hr17.set tS
 have x18 : Ext w w18 := x0.tr ((eaa e17).of_setRow e18' (ali34 _))
 have hs18 := hs.ext x18
 have hsn := hs.n
 rw [ali01] at hsn
 refine ⟨fun n i c wr => ∃ k : Nat, i = k ∧ k + n = b.length ∧ c = cI (crcF v (b.take k)) ∧ wr = w18, ⟨b.length, 0, rfl, by omega, rfl, rfl⟩, ?_⟩
 rintro n us i c wr ⟨k, rfl, hk, rfl, rfl⟩
 apply Br.mk <;> intro hc
 ·replace hc := q0T hc
  obtain ⟨x, hx⟩ := get_lt (l := b) (i := k) omm
  have hxb := hb x (ali00 hx)
  have hm : (b.map yv)[k]? = some [.int .u8 x] := by rw [ali02, hx]; rfl
  have hld := hs18.at hm (j := 0) rfl
  rw [padd_zero] at hld
  have wk := wkS (j := k)
  have ht : b.take (k + 1) = b.take k ++ [x] := by rw [ali09, hx]; rfl
  generalize hu : crcF v (b.take k) = u
  refine ⟨hs18.inB dcc omm hc, x, hld, ?_⟩
  have m1 : (min (12 : Int).toNat 16) = 12 := rfl
  have m2 : (min (4 : Int).toNat 8) = 4 := rfl
  have m3 : (min (4 : Int).toNat 16) = 4 := rfl
  rw [m1, m2, m3, w_shr, w_hi hxb, bXor16, w_lo hxb, w_shl]
  have l1 := nib_lt (shr_lt u) (hi_lt hxb)
  have g1 := tS_at l1
  have c1 := cI_bd ((u >>> 12) ^^^ (byW x >>> 4))
  have c1' : cI ((u >>> 12) ^^^ (byW x >>> 4)) < 16 := by unfold cI; omega
  refine ⟨by omega, by omega, _, (by rw [padd_row, ali37, hr.ld, alj64]; exact g1), ?_⟩
  rw [bXor16, w_shr, bXor16, w_shl]
  have l2 := nib_lt (shr_lt ((u <<< 4) ^^^ st4 (((u >>> 12) ^^^ (byW x >>> 4)) <<< 12))) (lo_lt (byW x))
  have g2 := tS_at l2
  have c2 := cI_bd ((((u <<< 4) ^^^ st4 (((u >>> 12) ^^^ (byW x >>> 4)) <<< 12)) >>> 12) ^^^ (byW x &&& 15#16))
  have c2' : cI ((((u <<< 4) ^^^ st4 (((u >>> 12) ^^^ (byW x >>> 4)) <<< 12)) >>> 12) ^^^ (byW x &&& 15#16)) < 16 := by unfold cI; omega
  refine ⟨by omega, by omega, _, (by rw [padd_row, ali37, hr.ld, alj64]; exact g2), n - 1, by omega, k + 1, wk, by omega, ?_, rfl⟩
  rw [bXor16, with_byte u hxb, ht, crcF_append, hu]
  rfl
 ·replace hc := q0F hc
  rw [ali11 omm]
  exact ⟨rfl, x18⟩
theorem crcOf_spec (s : Sl) (b : List Int) (w : World) (hs : RdY w s b) (hb : Bys b) (hn : (b.length : Int) ≤ 1099511627776) : Cal 373 #[s] w fun e w' => e = Value.int .u16 (cI (crcB b)) ∧ Ext w w' := by
 apply (crc_Of.vc (a0 := s))
 have st : Cal 387 #[] w fun e w' => e = Value.int .u16 (cI 0xFFFF#16) ∧ w' = w := by
  apply crc_Start.vc
  exact ⟨rfl, rfl⟩
 refine st.mono ?_
 rintro e w0 ⟨rfl, rfl⟩
 refine ⟨_, rfl, (crcWith_spec _ s b w0 hs hb hn).mono ?_⟩
 rintro e w2 ⟨rfl, x2⟩
 exact ⟨_, rfl, rfl, x2⟩
theorem crcGood_spec (s : Sl) (b : List Int) (w : World) (hs : RdY w s b) (hb : Bys b) (hn : (b.length : Int) ≤ 1099511627776) : Cal 370 #[s] w fun e w' => e = Value.bool (decide (2 ≤ b.length ∧ crcB b = 0#16)) ∧ Ext w w' := by
 apply (crc_Good.vc (a0 := s))
 have hsn := hs.n
 rw [ali01] at hsn
 apply Br.mk <;> intro h
 ·simp only [ge_iff_le, ali27] at h
  refine (crcOf_spec s b w hs hb hn).mono ?_
  rintro e w0 ⟨rfl, x0⟩
  refine ⟨_, rfl, ?_, x0⟩
  have : (cI (crcB b) == 0) = decide (2 ≤ b.length ∧ crcB b = 0#16) := by
   rw [Bool.eq_iff_iff]
   simp only [beq_iff_eq, ali27]
   constructor
   ·intro q; exact ⟨by omega, cI_inj.1 (q.trans rfl)⟩
   ·rintro ⟨-, q⟩; rw [q]; rfl
  rw [this]
 ·simp only [ge_iff_le, ali28] at h
  rw [decide_eq_false omm]
  exact ⟨rfl, Ext.rfl' _⟩
theorem crcBytes_spec (v : W16) (w : World) : Cal 374 #[.int .u16 (cI v)] w fun e w' => e = Value.agg #[.int .u8 (cI v / 256), .int .u8 (cI v % 256)] ∧ Ext w w' := by
 apply crc_Check_Bytes.vc
 intro w0 e0
 have hb := cI_bd v
 have h0 : Row w0 w [.int .u8 0, .int .u8 0] tA2 := Row.nw e0
 have e1 : w8q ((cI v).fdiv (2 ^ (min (8 : Int).toNat 16))) = cI v / 256 := by
  show w8q ((cI v).fdiv (2 ^ 8)) = _
  rw [w_shr, cI_shr, wrap_u8]
  simp only [show (2 : Int) ^ 8 = 256 from rfl]; omega
 have e2 : w8q (cI v) = cI v % 256 := wrap_u8 _
 rw [e1, e2]
 have hS := h0.setP (o := 0) (vs := [.int .u8 (cI v / 256), .int .u8 (cI v % 256)]) (ali34 2) (one_ii _ _ _ _)
 refine ⟨⟨rfl, h0.wr (o := 0) (n := 2) dcc⟩, fun w1 e1 => ?_⟩
 have e1' : w1 = w0.setRow w #[.int .u8 (cI v / 256), .int .u8 (cI v % 256)] := e1.trans hS
 have h1 : Row w1 w [.int .u8 (cI v / 256), .int .u8 (cI v % 256)] tA2 := by rw [e1']; exact h0.set _
 exact ⟨_, _, h1.loadL (fun j hj => by rw [ali37]), rfl, (eaa e0).of_setRow e1' (ali34 _)⟩
end Go.Proofs.YtjcnjlaelhdjeaaGreatDoor
namespace Go.Proofs.YtjcnjlaelhdjeaaGreatDoor
open Go Go.Vc Go.RowKit Go.Proofs Go.Chk Go.Runs Go.Code
abbrev tSB : TypeId := 43
theorem RdY.n {w : World} {s : Sl} {b : List Int} (h : RdY w s b) : s.n = b.length := by have := RdK.n h; rwa [ali01] at this
theorem yv_wd {b : List Int} : ∀ r ∈ b.map yv, r.length = 1 := fun r hr => by obtain ⟨x, _, rfl⟩ := ali06.1 hr; rfl
theorem cloneY_spec (s : Sl) (b : List Int) (w : World) (hs : RdY w s b) (hn : b.length ≤ 1099511627776) :
  Cal 334 #[s] w fun e w' => ∃ s' : Sl, e = s' ∧ OwY w w' s' b ∧ Ext w w' := by
 have hsn := RdY.n hs
 apply (slices_Clone_byte.vc (a0 := s))
 apply Br.mk <;> intro h
 ·have : b = [] := by
   rcases alj57 b.length with h0 | h0
   ·exact alj13 h0
   ·have := RdK.isSome hs omm (i := 0) (by simpa using h0)
    cases hsa : s.a <;> simp [hsa] at h this
  subst this
  exact ⟨⟨none, 0, 0⟩, rfl, OwnK.nil, Ext.rfl' w⟩
 ·rintro w0 rfl
  have xa := Ext.al w (.cells #[] tByte)
  have hz : OwnK w tByte 1 (w.alloc (.cells #[] tByte)) ⟨pzq w.heap.size, 0, 0⟩ [] := OwnK.of_row (ali34 _) (Row.new w [] tByte) smm (ali34 _) rfl (fun r hr => by cases hr)
  have hb := hz.appN (bytes := 1) (more := b.map yv) xa.size yv_wd (yv_one _) (by simp only [ali01]; omega) (by simp only [ali01]; omega)
  rw [ali01, ← hsn] at hb
  obtain ⟨hp, hr⟩ := hb
  refine ⟨(b.map yv).flatten, RdK.flat (hs.ext xa) omm, hp, fun s2 w3 hres => ?_⟩
  obtain ⟨ho, hn2, xb, _, _⟩ := hr s2 w3 hres
  exact ⟨AppRes_zero hres (by rw [flatten_len yv_wd, ali01, hsn]) smm, s2, rfl, ho, xa.trans xb⟩
theorem growNil_spec (n : Nat) (w : World) (hn : n ≤ 1099511627776) : Calls Tryz.prog 375 #[.slice none 0 0, .int .i64 n] w fun e w' => ∃ s' : Sl, e = .returned (.slice s'.a s'.n s'.c) ∧ OwY w.heap.size w' s' [] ∧ Ext w w' := by
 apply (slices_Grow_byte.vc (a0 := ⟨none, 0, 0⟩))
 have e1 : IntKind.wrap .i64 ((n : Int) - IntKind.wrap .i64 (((0 : Nat) : Int) - ((0 : Nat) : Int))) = n := by
  rw [wrap_in (n := ((0 : Nat) : Int) - ((0 : Nat) : Int)) (by unfold inI; omega), wI]; omega
 refine Br.mk (fun h => by simp at h; omega) (fun _ => ?_)
 rw [e1]
 refine Br.mk (fun h => ?_) (fun h => ?_)
 ·have h0 : OwnK w.heap.size tByte 1 w ⟨none, 0, 0⟩ [] := OwnK.nil
  have hb := h0.appN (bytes := 1) (more := (List.replicate n (yv 0))) (Nat.le_refl _) (fun r hr => by rw [(List.mem_replicate.1 hr).2]; rfl) (fun r hr => by rw [(List.mem_replicate.1 hr).2]; exact one_i _ _) (by simp only [List.length_replicate]; omega) (by simp only [List.length_replicate]; omega)
  rw [List.length_replicate] at hb
  obtain ⟨hp, hr⟩ := hb
  refine ⟨by omega, by omega, ⟨by omega, wI, by omega⟩, hp, fun s0 w1 hres => ?_⟩
  obtain ⟨ho, hn2, xb, _, _⟩ := hr s0 w1 hres
  have hle := OwnK.le ho
  refine ⟨by omega, by omega, ⟨s0.a, 0, s0.c⟩, by rw [slBase_zero]; rfl, ?_, xb⟩
  rcases ho.form (by decide) with ⟨rfl, -⟩ | ⟨g, cs, ha, hg, hrow, hc, hnn, ht, hl⟩
  ·exact OwnK.nil
  ·rw [ha]
   exact OwnK.of_row hg hrow hc (Nat.zero_le _) (by simp) (fun r hr => by cases hr)
 ·exact ⟨⟨none, 0, 0⟩, rfl, OwnK.nil, Ext.rfl' _⟩
abbrev catY (xs : List (Sl × List Int)) : List Int := xs.flatMap (·.2)
theorem catY_take (xs : List (Sl × List Int)) {k : Nat} {x : Sl × List Int} (h : xs[k]? = some x) : catY (xs.take (k + 1)) = catY (xs.take k) ++ x.2 := by
 rw [ali09, h]; simp [catY]
theorem catY_le (xs : List (Sl × List Int)) (k : Nat) : (catY (xs.take k)).length ≤ (catY xs).length := by
 have e := congrArg (fun l => (catY l).length) (alj52 k xs)
 simp only [List.flatMap_append, ali07] at e
 have h1 : (catY (xs.take k)).length = (List.flatMap (fun x => x.2) (xs.take k)).length := rfl
 have h2 : (catY xs).length = (List.flatMap (fun x => x.2) xs).length := rfl
 omega
theorem concat_spec (s : Sl) (xs : List (Sl × List Int)) (w : World) (hs : RdK w s 1 (xs.map fun x => [.slice x.1.a x.1.n x.1.c])) (hr : ∀ x ∈ xs, RdY w x.1 x.2) (hl : xs.length ≤ 1000) (hn : (catY xs).length ≤ 1099511627776) :
  Calls Tryz.prog 344 #[.slice s.a s.n s.c] w fun e w' => ∃ s' : Sl, e = .returned (.slice s'.a s'.n s'.c) ∧ OwY w.heap.size w' s' (catY xs) ∧ Ext w w' := by
 apply (slices_Concat_byte.vc (a0 := s))
 have hsn := hs.n
 rw [List.length_map] at hsn
 have row : ∀ {k : Nat} {w' : World}, Ext w w' → k < xs.length → ∃ x, xs[k]? = some x ∧ InB s.a (k : Int) s.n ∧ ld w' (padd s.a (((k : Nat) : Int).toNat * 1)) = some (.slice x.1.a x.1.n x.1.c) ∧ RdY w' x.1 x.2 := fun {k w'} x' hk => by
  obtain ⟨x, hx⟩ := get_lt (l := xs) (i := k) hk
  have hs' := hs.ext x'
  have hm : (xs.map fun x => [Value.slice x.1.a x.1.n x.1.c])[k]? = some [.slice x.1.a x.1.n x.1.c] := by rw [List.getElem?_map, hx]; rfl
  have hld := hs'.at hm (j := 0) rfl
  rw [padd_zero] at hld
  exact ⟨x, hx, hs'.inB (by decide) (by omega) (by omega), hld, (hr x (List.mem_of_getElem? hx)).ext x'⟩
 refine ⟨fun n i z wr => ∃ k : Nat, i = k ∧ k + n = xs.length ∧ z = ((catY (xs.take k)).length : Nat) ∧ wr = w, ⟨xs.length, 0, rfl, by omega, rfl, rfl⟩, ?_⟩
 rintro n us i z wr ⟨k, rfl, hk, rfl, rfl⟩
 refine Br.mk (fun hc => ?_) (fun hc => ?_)
 ·simp only [decide_eq_true_eq] at hc
  obtain ⟨x, hx, hin, hld, hrx⟩ := row (k := k) (Ext.rfl' _) (by omega)
  have h1 := catY_le xs (k + 1)
  have ht := catY_take xs hx
  have hxn := RdY.n hrx
  have wz : IntKind.wrap .i64 (((catY (xs.take k)).length : Int) + ((x.1.n : Nat) : Int)) = ((catY (xs.take (k + 1))).length : Nat) := by
   rw [ht, List.length_append]
   rw [ht, List.length_append] at h1
   rw [wrap_in (by unfold inI; omega)]; omega
  have wk : IntKind.wrap .i64 ((k : Int) + 1) = ((k + 1 : Nat) : Int) := by rw [wrap_in (by unfold inI; omega)]; omega
  refine ⟨hin, x.1, hld, ?_⟩
  rw [wz]
  refine Br.mk (fun h => by simp at h; omega) (fun _ => ⟨n - 1, by omega, k + 1, wk, by omega, rfl, rfl⟩)
 ·simp only [decide_eq_false_iff_not] at hc
  rw [List.take_of_length_le (by omega)]
  refine (growNil_spec _ _ hn).mono ?_
  rintro e w8 ⟨s9, rfl, ho, x8⟩
  refine ⟨s9, rfl, fun n i s wr2 => ∃ k : Nat, i = k ∧ k + n = xs.length ∧ OwY wr.heap.size wr2 s (catY (xs.take k)) ∧ Ext wr wr2, ⟨xs.length, 0, rfl, by omega, ho, x8⟩, ?_⟩
  rintro n11 us12 i s14 w15 ⟨k2, rfl, hk2, ho15, x15⟩
  refine Br.mk (fun hc2 => ?_) (fun hc2 => ?_)
  ·simp only [decide_eq_true_eq] at hc2
   obtain ⟨x, hx, hin, hld, hrx⟩ := row (k := k2) x15 (by omega)
   have h1 := catY_le xs (k2 + 1)
   have ht := catY_take xs hx
   have hxn := RdY.n hrx
   have hon := RdY.n (OwY.rdy ho15)
   rw [ht, List.length_append] at h1
   have wk : IntKind.wrap .i64 ((k2 : Int) + 1) = ((k2 + 1 : Nat) : Int) := by rw [wrap_in (by unfold inI; omega)]; omega
   have hb := OwnK.appN ho15 (bytes := 1) (more := x.2.map yv) x15.size yv_wd (yv_one _) (by simp only [List.length_map]; omega) (by simp only [List.length_map]; omega)
   rw [List.length_map, ← hxn] at hb
   obtain ⟨hp, hres⟩ := hb
   refine ⟨hin, x.1, hld, (x.2.map yv).flatten, RdK.flat hrx (by omega), hp, fun s19 w20 hr20 => ?_⟩
   obtain ⟨ho20, _, xb, _, _⟩ := hres s19 w20 hr20
   refine ⟨n11 - 1, by omega, k2 + 1, wk, by omega, ?_, x15.trans xb⟩
   rw [ht]
   show OwnK _ _ _ _ _ _
   rw [List.map_append]; exact ho20
  ·simp only [decide_eq_false_iff_not] at hc2
   rw [List.take_of_length_le (by omega)] at ho15
   exact ⟨s14, rfl, ho15, x15⟩
theorem crcPut_spec (s : Sl) (b : List Int) (w : World) (hs : RdY w s b) (hb : Bys b) (hn : b.length + 2 ≤ 1099511627776) : Cal 343 #[s] w fun e w' => ∃ s' : Sl, e = s' ∧ OwY w w' s' (sealB b) ∧ Ext w w' := by
 apply (crc_Put.vc (a0 := s))
 refine (crcOf_spec s b w hs hb omm).mono ?_
 rintro e w0 ⟨rfl, x0⟩
 refine ⟨_, rfl, (crcBytes_spec _ w0).mono ?_⟩
 rintro e w2 ⟨rfl, x2⟩
 refine ⟨_, _, rfl, fun w5 e5 => ?_⟩
 have h5 : Row w5 w2 [.int .u8 0, .int .u8 0] tA2 := Row.nw e5
 have hS := h5.setP (o := 0) (vs := [.int .u8 (cI (crcB b) / 256), .int .u8 (cI (crcB b) % 256)]) (ali34 2) (one_ii _ _ _ _)
 refine ⟨⟨rfl, h5.wr (o := 0) (n := 2) dcc⟩, fun w6 e6 w7 e7 => ?_⟩
 have e6' : w6 = w5.setRow w2 #[.int .u8 (cI (crcB b) / 256), .int .u8 (cI (crcB b) % 256)] := e6.trans hS
 have h6 : Row w6 w2 [.int .u8 (cI (crcB b) / 256), .int .u8 (cI (crcB b) % 256)] tA2 := by rw [e6']; exact h5.set _
 have x27 : Ext w2 w6 := (eaa e5).of_setRow e6' (ali34 _)
 have x67 := eaa e7
 have x7 := x0.tr (x2.tr (x27.tr x67))
 have hc : RdY w7 ⟨pzq w2.heap.size, 2, 2⟩ (crcY b) := by
  refine ⟨rfl, yv_wd, fun i r hi j v hj => ?_⟩
  have h7 := h6.ext x67
  rw [padd_row, ali37, h7.ld]
  match i, hi with
  | 0, hi => cases hi; match j, hj with
    | 0, hj => cases hj; rfl
  | 1, hi => cases hi; match j, hj with
    | 0, hj => cases hj; rfl
  | i + 2, hi => simp [crcY] at hi
 have hl : RdK w7 ⟨pzq w6.heap.size, 2, 2⟩ 1 ([(s, b), (⟨pzq w2.heap.size, 2, 2⟩, crcY b)].map fun x => [.slice x.1.a x.1.n x.1.c]) := by
  have h7 : Row w7 w6 [s, .slice (pzq w2.heap.size) 2 2] tSB := by rw [e7, slBase_zero]; exact Row.new w6 [_, _] _
  refine ⟨rfl, fun r hr => by simp at hr; rcases hr with rfl | rfl <;> rfl, fun i r hi j v hj => ?_⟩
  rw [padd_row, ali37, h7.ld]
  match i, hi with
  | 0, hi => cases hi; match j, hj with
    | 0, hj => cases hj; rfl
  | 1, hi => cases hi; match j, hj with
    | 0, hj => cases hj; rfl
  | i + 2, hi => simp at hi
 have hcat : catY [(s, b), (⟨pzq w2.heap.size, 2, 2⟩, crcY b)] = sealB b := by simp [catY, sealB]
 refine (concat_spec ⟨pzq w6.heap.size, 2, 2⟩ [(s, b), (⟨pzq w2.heap.size, 2, 2⟩, crcY b)] w7 hl (fun x hx => by
  simp at hx
  rcases hx with rfl | rfl
  ·exact hs.ext x7
  ·exact hc) (show 2 ≤ 1000 by decide) (by rw [hcat, sealB_len]; exact hn)).mono ?_
 rintro e w8 ⟨s9, rfl, ho, x8⟩
 rw [hcat] at ho
 exact ⟨s9, rfl, s9, rfl, OwnK.low ho x7.size, x7.tr x8⟩
theorem crcTake_spec (s : Sl) (b : List Int) (w : World) (hs : RdY w s b) (hb : Bys b) (hc : s.n ≤ s.c) (hn : b.length ≤ 1099511627776) : Cal 335 #[s] w fun e w' => ∃ s' : Sl, e = Value.tuple #[s', .int .i64 (tkS b).2] ∧ OwY w w' s' (tkS b).1 ∧ Ext w w' := by
 apply (crc_Take.vc (a0 := s))
 have hsn := RdY.n hs
 apply Br.mk <;> intro h
 ·replace h := q0T h
  have e : tkS b = ([], 3) := by unfold tkS; rw [if_pos omm]
  rw [e]
  exact ⟨⟨none, 0, 0⟩, rfl, OwnK.nil, Ext.rfl' _⟩
 ·replace h := q0F h
  refine (crcGood_spec s b w hs hb omm).mono ?_
  rintro e w0 ⟨rfl, x0⟩
  refine ⟨_, rfl, Br.mk (fun h2 => ?_) (fun h2 => ?_)⟩
  ·have e : tkS b = ([], 4) := by
    unfold tkS; rw [if_neg omm, if_neg]
    intro q
    rw [decide_eq_true ⟨by omega, q⟩] at h2; cases h2
   rw [e]
   exact ⟨⟨none, 0, 0⟩, rfl, OwnK.nil, x0⟩
  ·have q : crcB b = 0#16 := by
    simp at h2; exact h2.2
   have e : tkS b = (b.take (b.length - 2), 0) := by unfold tkS; rw [if_neg omm, if_pos q]
   have wk : wqq (((s.n : Nat) : Int) - 2) = ((b.length - 2 : Nat) : Int) := by rw [wI]; omega
   rw [wk, e]
   have hcut : RdY w0 ⟨slBase s.a 0 s.c 1, b.length - 2, s.c - 0⟩ (b.take (b.length - 2)) := by
    have := (hs.ext x0).cut (m := b.length - 2) (c' := s.c) (c'' := s.c - 0) (by rw [ali01]; omega)
    rw [← List.map_take] at this
    exact this
   refine ⟨by omega, by omega, (cloneY_spec ⟨slBase s.a 0 s.c 1, b.length - 2, s.c - 0⟩ _ w0 hcut (by rw [ali12]; omega)).mono ?_⟩
   rintro e w2 ⟨s3, rfl, ho, x2⟩
   exact ⟨s3, rfl, s3, rfl, OwnK.low ho x0.size, x0.tr x2⟩
end Go.Proofs.YtjcnjlaelhdjeaaGreatDoor
namespace Go.Proofs.YtjcnjlaelhdjeaaGreatDoor
open Go Go.Vc Go.RowKit Go.Proofs Go.Chk Go.Runs Go.Code
theorem pow8 (n : Int) {k : Nat} (hk : k ≤ 4) : n.fdiv (2 ^ (min ((8 * (k : Int))).toNat 64)) = n / 256 ^ k := by
 have e : (2 : Int) ^ (min ((8 * (k : Int))).toNat 64) = 256 ^ k := by
  rcases k with _ | _ | _ | _ | _ | k
  ·rfl
  ·rfl
  ·rfl
  ·rfl
  ·rfl
  ·omega
 rw [e, ali24]
 exact Int.le_of_lt (Int.pow_pos dcc)
theorem put_spec (B : Nat) (s : Sl) (b : List Int) (n : Int) (m : Nat) (hm : m ≤ 4) (w : World) (hB : B ≤ w.heap.size) (ho : OwY B w s b) (hb : b.length ≤ 1000) :
  Calls Tryz.prog 342 #[.slice s.a s.n s.c, .int .i64 n, .int .i64 m] w fun e w' => ∃ s' : Sl, e = .returned (.slice s'.a s'.n s'.c) ∧ OwY B w' s' (b ++ be m n) ∧ Below B w w' := by
 apply (store_put.vc (a0 := s))
 have w1 : IntKind.wrap .i64 ((m : Int) - 1) = (m : Int) - 1 := wI
 refine ⟨fun l x o wr => ∃ k : Nat, l = k ∧ x = (k : Int) - 1 ∧ k ≤ m ∧ ∃ pre, pre ++ be k n = be m n ∧ OwY B wr o (b ++ pre) ∧ Below B w wr, ⟨m, m, rfl, w1, Nat.le_refl _, [], rfl, by rw [List.append_nil]; exact ho, Below.refl _ _⟩, ?_⟩
 rintro k us x s4 w5 ⟨k', rfl, rfl, hk, pre, hp, ho5, x5⟩
 have hlen := congrArg List.length hp
 rw [List.length_append, be_len, be_len] at hlen
 have hon := RdY.n (OwY.rdy ho5)
 rw [List.length_append] at hon
 refine Br.mk (fun hc => ?_) (fun hc => ?_)
 ·simp only [ge_iff_le, decide_eq_true_eq] at hc
  obtain ⟨j, rfl⟩ : ∃ j, k = j + 1 := ⟨k - 1, by omega⟩
  have e8 : IntKind.wrap .i64 (8 * (((j + 1 : Nat) : Int) - 1)) = 8 * (j : Int) := by rw [wI]; omega
  rw [e8, pow8 n (by omega), wrap_u8]
  refine AndL_iff.2 ⟨ngC_iff.2 (by omega), fun w7 e7 => ?_⟩
  subst e7
  obtain ⟨hpre, hres⟩ := OwnK.app1 ho5 (bytes := 1) (news := yv (n / 256 ^ j % 256)) (.cells #[.int .u8 (n / 256 ^ j % 256)] tByte) (by have := x5.size; omega) rfl (one_i _ _) (by omega) (by omega)
  refine ⟨hpre, fun s8 w9 hr => ?_⟩
  obtain ⟨f1, ho9, hn9, xb, -, -⟩ := hres s8 w9 hr
  refine ⟨f1, j, by omega, j, rfl, by rw [wI]; omega, by omega, pre ++ [n / 256 ^ j % 256], ?_, ?_, x5.trans xb⟩
  ·rw [← hp, List.append_assoc]; rfl
  ·rw [← List.append_assoc]
   show OwnK _ _ _ _ _ _
   rw [List.map_append]; exact ho9
 ·simp only [ge_iff_le, decide_eq_false_iff_not] at hc
  have : k = 0 := by omega
  subst this
  have hp' : pre = be m n := by simpa [be] using hp
  rw [hp'] at ho5
  exact ⟨s4, rfl, ho5, x5⟩
theorem take_spec (s : Sl) (b : List Int) (w : World) (hs : RdY w s b) (hb : Bys b) (hn : b.length ≤ 4) : Cal 336 #[s] w fun e w' => e = Value.int .i64 (numY b) ∧ w' = w := by
 apply (store_take.vc (a0 := s))
 have hsn := RdY.n hs
 refine ⟨fun l i n wr => ∃ k : Nat, i = k ∧ k + l = b.length ∧ n = numY (b.take k) ∧ wr = w, ⟨b.length, 0, rfl, by omega, rfl, rfl⟩, ?_⟩
 rintro l us i n wr ⟨k, rfl, hk, rfl, rfl⟩
 apply Br.mk <;> intro hc
 ·replace hc := q0T hc
  obtain ⟨x, hx⟩ := get_lt (l := b) (i := k) omm
  have hxb := hb x (ali00 hx)
  have hm : (b.map yv)[k]? = some [.int .u8 x] := by rw [ali02, hx]; rfl
  have hld := hs.at hm (j := 0) rfl
  rw [padd_zero] at hld
  have wk := wkS (j := k)
  have hsm := numY_small hb (k := k) omm
  have ht : b.take (k + 1) = b.take k ++ [x] := by rw [ali09, hx]; rfl
  refine ⟨RdK.inB hs dcc omm hc, x, hld, l - 1, by omega, k + 1, wk, by omega, ?_, rfl⟩
  have e1 : wqq (numY (b.take k) * 2 ^ (min (8 : Int).toNat 64)) = numY (b.take k) * 256 := by
   show wqq (numY (b.take k) * 256) = _
   exact wI
  have e2 : wqq x = x := wI
  rw [e1, e2, bOr_byte omm hxb, ht, numY_app]
 ·replace hc := q0F hc
  rw [ali11 omm]
  exact ⟨rfl, rfl⟩
theorem sWrite_spec (v : Int) (s : Sl) (b : List Int) (w : World) (hs : RdY w s b) (hb : Bys b) (hn : b.length ≤ 1099511627776) :
  Calls Tryz.prog 292 #[.int .i64 v, .slice s.a s.n s.c] w fun e w' => ∃ s' : Sl, e = .returned (.tuple #[.slice s'.a s'.n s'.c, .int .i64 (wrS v b).2]) ∧ OwY w.heap.size w' s' (wrS v b).1 ∧ Ext w w' := by
 apply (store_Write.vc (a1 := s))
 have hsn := RdY.n hs
 have no : (v < 1 ∨ v > 1073741824 ∨ (b.length : Int) > 65536) → ∃ s' : Sl, Ending.returned (.tuple #[.slice none 0 0, .int .i64 1]) = .returned (.tuple #[.slice s'.a s'.n s'.c, .int .i64 (wrS v b).2]) ∧ OwY w.heap.size w s' (wrS v b).1 ∧ Ext w w := fun h => by
  have e : wrS v b = ([], 1) := by unfold wrS; rw [if_pos h]
  rw [e]
  exact ⟨⟨none, 0, 0⟩, rfl, OwnK.nil, Ext.rfl' _⟩
 refine Br.mk (fun h => ?_) (fun h1 => Br.mk (fun h => ?_) (fun h2 => Br.mk (fun h => ?_) (fun h3 => ?_)))
 ·simp only [decide_eq_true_eq] at h; exact no (.inl h)
 ·simp only [gt_iff_lt, decide_eq_true_eq] at h; exact no (.inr (.inl h))
 ·simp only [gt_iff_lt, decide_eq_true_eq] at h; exact no (.inr (.inr (by omega)))
 ·simp only [gt_iff_lt, decide_eq_false_iff_not] at h1 h2 h3
  have e : wrS v b = (sealB (recB v b), 0) := by unfold wrS; rw [if_neg (by omega)]
  rw [e]
  have p4 := put_spec w.heap.size ⟨none, 0, 0⟩ [] v 4 (by decide) w (Nat.le_refl _) OwnK.nil (by simp)
  refine p4.mono ?_
  rintro e w0 ⟨s1, rfl, o1, x0⟩
  have p3 := put_spec w.heap.size s1 ([] ++ be 4 v) ((s.n : Nat) : Int) 3 (by decide) w0 x0.size o1 (by simp [be_len])
  refine ⟨s1, rfl, p3.mono ?_⟩
  rintro e w2 ⟨s3, rfl, o3, x2⟩
  refine ⟨s3, rfl, fun w4 e4 => ?_⟩
  have x02 : Ext w w2 := x0.trans x2
  have x24 : Ext w2 w4 := (Ext.rfl' _).of_alloc e4
  have x4 := x02.tr x24
  have r4 : Row w4 w2.heap.size [.slice s3.a s3.n s3.c, .slice s.a s.n s.c] tSB := by rw [e4]; exact Row.new w2 [_, _] _
  have hl : RdK w4 ⟨some ⟨w2.heap.size, 0, none⟩, 2, 2⟩ 1 ([(s3, [] ++ be 4 v ++ be 3 ((s.n : Nat) : Int)), (s, b)].map fun x => [.slice x.1.a x.1.n x.1.c]) := by
   refine ⟨rfl, fun r hr => by simp at hr; rcases hr with rfl | rfl <;> rfl, fun i r hi j v hj => ?_⟩
   rw [padd_row, Nat.zero_add, r4.ld]
   match i, hi with
   | 0, hi => cases hi; match j, hj with
     | 0, hj => cases hj; rfl
   | 1, hi => cases hi; match j, hj with
     | 0, hj => cases hj; rfl
   | i + 2, hi => simp at hi
  have hcat : catY [(s3, [] ++ be 4 v ++ be 3 ((s.n : Nat) : Int)), (s, b)] = recB v b := by simp [catY, recB, hsn]
  have hrl := recB_len v b
  refine (concat_spec ⟨some ⟨w2.heap.size, 0, none⟩, 2, 2⟩ [(s3, [] ++ be 4 v ++ be 3 ((s.n : Nat) : Int)), (s, b)] w4 hl (fun x hx => by
   simp only [List.mem_cons, List.not_mem_nil, or_false] at hx
   rcases hx with rfl | rfl
   ·exact RdK.ext (OwY.rdy o3) x24
   ·exact hs.ext x4) (show 2 ≤ 1000 by decide) (by rw [hcat]; omega)).mono ?_
  rintro e w5 ⟨s6, rfl, o6, x5⟩
  rw [hcat] at o6
  refine ⟨s6, rfl, (crcPut_spec s6 (recB v b) w5 (OwY.rdy o6) (recB_in hb) (by omega)).mono ?_⟩
  rintro e w7 ⟨s8, rfl, o8, x7⟩
  have x45 := x4.tr x5
  exact ⟨s8, rfl, s8, rfl, OwnK.low o8 x45.size, x45.tr x7⟩
theorem tkS_in {b : List Int} (h : Bys b) : Bys (tkS b).1 := by
 unfold tkS
 split
 ·intro c hc; cases hc
 ·split
  ·exact fun c hc => h c (alj44 hc)
  ·intro c hc; cases hc
theorem tkS_le (b : List Int) : (tkS b).1.length ≤ b.length := by
 unfold tkS
 split
 ·simp
 ·split
  ·simp only [ali12]; omega
  ·simp
theorem rdS_in {b : List Int} (h : Bys b) : Bys (rdS b).2.1 := by
 unfold rdS
 split
 ·intro c hc; cases hc
 ·split
  ·intro c hc; cases hc
  ·split
   ·intro c hc; cases hc
   ·exact fun c hc => tkS_in h c (alj43 hc)
theorem rdS_le (b : List Int) : (rdS b).2.1.length ≤ b.length := by
 have := tkS_le b
 unfold rdS
 split
 ·simp
 ·split
  ·simp
  ·split
   ·simp
   ·simp only [alj30]; omega
theorem sRead_spec (s : Sl) (b : List Int) (w : World) (hs : RdY w s b) (hb : Bys b) (hc : s.n ≤ s.c) (hn : b.length ≤ 1099511627776) :
  Cal 285 #[s] w fun e w' => ∃ s' : Sl, e = Value.tuple #[.int .i64 (rdS b).1, s', .int .i64 (rdS b).2.2] ∧ RdY w' s' (rdS b).2.1 ∧ s'.n ≤ s'.c ∧ (∀ g, s'.blk = some g → w.heap.size ≤ g) ∧ Ext w w' := by
 apply (store_Read.vc (a0 := s))
 refine (crcTake_spec s b w hs hb hc hn).mono ?_
 rintro e w0 ⟨s1, rfl, o1, x0⟩
 have hi := tkS_in hb
 have hle := tkS_le b
 have nil : RdY w0 ⟨none, 0, 0⟩ [] := OwY.rdy (OwnK.nil (B := 0))
 have h1 : rdS b = if (tkS b).2 ≠ 0 then (0, [], (tkS b).2) else if (tkS b).1.length < 7 then (0, [], 3) else if numY ((tkS b).1.take 4) < 1 ∨ numY ((tkS b).1.take 4) > 1073741824 ∨ numY (((tkS b).1.drop 4).take 3) > 65536 ∨ numY (((tkS b).1.drop 4).take 3) ≠ (((tkS b).1.drop 7).length : Int) then (0, [], 2) else (numY ((tkS b).1.take 4), (tkS b).1.drop 7, 0) := rfl
 rw [h1]
 generalize tkS b = t at *
 obtain ⟨t1, t2⟩ := t
 simp only at *
 have hon := RdY.n (OwY.rdy o1)
 have hoc := OwnK.le o1
 refine ⟨s1, _, rfl, Br.mk (fun h => ?_) (fun h => ?_)⟩
 ·have : t2 ≠ 0 := by simpa using h
  rw [if_pos this]
  exact ⟨⟨none, 0, 0⟩, rfl, nil, ali34 _, (fun g hg => by cases hg), x0⟩
 ·have : t2 = 0 := by simpa using h
  subst this
  rw [if_neg smm]
  apply Br.mk <;> intro h
  ·replace h := q0T h
   rw [if_pos omm]
   exact ⟨⟨none, 0, 0⟩, rfl, nil, ali34 _, (fun g hg => by cases hg), x0⟩
  ·replace h := q0F h
   rw [if_neg omm]
   have rd := RdK.ext (OwY.rdy o1) (Ext.dr w0)
   have c4 : RdY w0.drew ⟨slBase s1.a 0 s1.c 1, 4 - 0, s1.c - 0⟩ (t1.take 4) := by
    have := RdK.cut rd (m := 4) (c' := s1.c) (c'' := s1.c - 0) (by rw [ali01]; omega)
    rw [← List.map_take] at this; exact this
   have c3 : RdY w0.drew ⟨slBase s1.a 4 s1.c 1, 7 - 4, s1.c - 4⟩ ((t1.drop 4).take 3) := by
    have r4 := RdK.rest rd (l := 4) (m := s1.c) (n' := t1.length - 4) (c' := s1.c - 4) (by rw [ali01]) (by rw [ali01]; omega)
    have := RdK.cut r4 (m := 3) (c' := 7) (c'' := s1.c - 4) (by rw [alj30, ali01]; omega)
    rw [slBase_zero, ← List.map_drop, ← List.map_take] at this; exact this
   have c7 : ∀ w', Ext w0 w' → RdY w' ⟨slBase s1.a 7 s1.c 1, s1.n - 7, s1.c - 7⟩ (t1.drop 7) := fun w' x' => by
    have := RdK.rest (RdK.ext (OwY.rdy o1) x') (l := 7) (m := s1.c) (n' := s1.n - 7) (c' := s1.c - 7) (by rw [ali01]; omega) (by rw [ali01]; omega)
    rw [← List.map_drop] at this; exact this
   refine ⟨by omega, by omega, by omega, by omega, by omega, by omega, by omega, by omega, (take_spec ⟨slBase s1.a 0 s1.c 1, 4 - 0, s1.c - 0⟩ _ w0.drew c4 (fun c hc => hi c (alj44 hc)) (by rw [ali12]; omega)).mono ?_⟩
   rintro e w3 ⟨rfl, hw⟩
   subst hw
   refine ⟨_, rfl, (take_spec ⟨slBase s1.a 4 s1.c 1, 7 - 4, s1.c - 4⟩ _ w0.drew c3 (fun c hc => hi c (alj43 (alj44 hc))) (by rw [ali12]; omega)).mono ?_⟩
   rintro e w5 ⟨rfl, hw⟩
   subst hw
   have hbk : ∀ g, (Sl.mk (slBase s1.a 7 s1.c 1) (s1.n - 7) (s1.c - 7)).blk = some g → w.heap.size ≤ g := fun g hg => by
    have : s1.blk = some g := by
     unfold Sl.blk at hg ⊢
     simp only [slBase] at hg
     split at hg
     ·exact hg
     ·cases ha : s1.a with
      | none => rw [ha] at hg; cases hg
      | some a =>
        rw [ha] at hg
        simp only [alj69, Option.some.injEq, Addr.add] at hg ⊢
        rw [← hg]; split <;> rfl
    exact (o1.own.lt this).1
   have xd := x0.tr (Ext.dr w0)
   have nil' : RdY w0.drew ⟨none, 0, 0⟩ [] := OwY.rdy (OwnK.nil (B := 0))
   have hdl : (t1.drop 7).length = s1.n - 7 := by rw [alj30]; omega
   have no : (numY (t1.take 4) < 1 ∨ numY (t1.take 4) > 1073741824 ∨ numY ((t1.drop 4).take 3) > 65536 ∨ numY ((t1.drop 4).take 3) ≠ ((t1.drop 7).length : Int)) → ∃ s' : Sl, Ending.returned (.tuple #[vzz, .slice none 0 0, (2:Int)]) = Value.tuple #[.int .i64 (if numY (t1.take 4) < 1 ∨ numY (t1.take 4) > 1073741824 ∨ numY ((t1.drop 4).take 3) > 65536 ∨ numY ((t1.drop 4).take 3) ≠ ((t1.drop 7).length : Int) then ((0 : Int), ([] : List Int), (2 : Int)) else (numY (t1.take 4), t1.drop 7, 0)).1, s', .int .i64 (if numY (t1.take 4) < 1 ∨ numY (t1.take 4) > 1073741824 ∨ numY ((t1.drop 4).take 3) > 65536 ∨ numY ((t1.drop 4).take 3) ≠ ((t1.drop 7).length : Int) then ((0 : Int), ([] : List Int), (2 : Int)) else (numY (t1.take 4), t1.drop 7, 0)).2.2] ∧
     RdY w0.drew s' (if numY (t1.take 4) < 1 ∨ numY (t1.take 4) > 1073741824 ∨ numY ((t1.drop 4).take 3) > 65536 ∨ numY ((t1.drop 4).take 3) ≠ ((t1.drop 7).length : Int) then ((0 : Int), ([] : List Int), (2 : Int)) else (numY (t1.take 4), t1.drop 7, 0)).2.1 ∧ s'.n ≤ s'.c ∧ (∀ g, s'.blk = some g → w.heap.size ≤ g) ∧ Ext w w0.drew := fun h => by
    rw [if_pos h]
    exact ⟨⟨none, 0, 0⟩, rfl, nil', ali34 _, (fun g hg => by cases hg), xd⟩
   refine ⟨_, rfl, Br.mk (fun h => no ?_) (fun q1 => Br.mk (fun h => no ?_) (fun q2 => Br.mk (fun h => no ?_) (fun q3 => Br.mk (fun h => no ?_) (fun q4 => ?_))))⟩
   ·exact .inl (by simpa using h)
   ·exact .inr (.inl (by simpa using h))
   ·exact .inr (.inr (.inl (by simpa using h)))
   ·refine .inr (.inr (.inr ?_))
    rw [hdl]
    simpa using h
   ·simp only [gt_iff_lt, ali28, bne_eq_false_iff_eq] at q1 q2 q3 q4
    rw [if_neg (by
     rw [hdl]
     simp only [not_or]
     exact ⟨q1, q2, q3, by rw [q4]; simp⟩)]
    exact ⟨_, rfl, c7 _ (Ext.dr w0), by simp only; omega, hbk, xd⟩
end Go.Proofs.YtjcnjlaelhdjeaaGreatDoor
namespace Go.Proofs.YtjcnjlaelhdjeaaGreatDoor
open Go Go.Vc Go.RowKit Go.Proofs Go.Chk Go.Runs Go.Code
theorem next_tape {P : Program} {m since c0 clock r : Nat} {seen : Array Nat} {es : Array MapEntry} {w : World} {ty : TypeId} {v : Value} {w' : World} (hr : w.heap[r]? = some (.mapIter (some m) since seen c0)) (hm : w.heap[m]? = some (.map es clock))
  (h : (Instr.next (.pointer (pzq r)) false ty).run P w = .ok v w') : w'.tape = w.tape := by
 simp only [Instr.next, getObj, Sem.run_bind, Sem.run, hr, hm, Result.andThen] at h
 split at h
 ·cases h
 ·generalize (Array.filter (fun e => !seen.contains e.born) es) = L at h
  generalize (if (Array.filter (fun x => decide (x.born < since)) L).isEmpty = true then #[none] else #[]) ++ Array.map some (Array.filter (fun x => decide (x.born < since)) L ++ Array.filter (fun x => decide (x.born ≥ since)) L) = C at h
  have hch : ∀ j w1, (choose (Question.mapNext C.size)).run P w = .ok j w1 → w1.tape = w.tape := fun j w1 h1 => by
   by_cases hf : C.size ≤ 1
   ·simp only [choose, Sem.run, Question.forced, ali27, hf, if_true] at h1
    cases h1; rfl
   ·simp only [choose, Sem.run, Question.forced, ali27, hf, if_false, Question.cut] at h1
    cases h1; rfl
  rw [Sem.run_bind] at h
  cases hc : (choose (Question.mapNext C.size)).run P w with
  | ok j w1 =>
    have ht := hch j w1 hc
    rw [hc] at h
    simp only [Result.andThen] at h
    split at h
    ·rw [Sem.run_bind] at h
     simp only [setObj, Sem.run] at h
     split at h
     all_goals first
      | (simp [Result.andThen] at h; done)
      | (simp only [Result.andThen, Sem.run_pure] at h; cases h; exact ht)
    ·rw [Sem.run_pure] at h; cases h; exact ht
    ·cases h
  | _ => rw [hc] at h; cases h
def nOf : Value → Int | .slice _ n _ => (n : Int) | _ => 0
def seenLen : List MapEntry → Array Nat → Int
 | [], _ => 0
 | x :: l, seen => (if seen.contains x.born then nOf x.val else 0) + seenLen l seen
theorem seenLen_other (seen : Array Nat) (b : Nat) : ∀ (es : List MapEntry), b ∉ es.map (·.born) → seenLen es (seen.push b) = seenLen es seen
 | [], _ => rfl
 | x :: l, h => by
   have hx : (x.born == b) = false := by
    cases hc : x.born == b with
    | false => rfl
    | true => exact absurd (ali16.2 (Or.inl (beq_iff_eq.1 hc).symm)) h
   have ih := seenLen_other seen b l (fun e => h (ali16.2 (Or.inr e)))
   simp only [seenLen, contains_push, hx, Bool.or_false, ih]
theorem seenLen_push (seen : Array Nat) (e : MapEntry) (hs : seen.contains e.born = false) : ∀ (es : List MapEntry), (es.map (·.born)).Nodup → e ∈ es → seenLen es (seen.push e.born) = seenLen es seen + nOf e.val
 | x :: l, hn, he => by
   have hn' : x.born ∉ l.map (·.born) ∧ (l.map (·.born)).Nodup := alj48.1 hn
   rcases ali16.1 he with rfl | h
   ·rw [seenLen, seenLen, seenLen_other seen _ l hn'.1, contains_push, beq_self_eq_true, Bool.or_true, hs]
    simp; omega
   ·have hx : (x.born == e.born) = false := by
     cases hc : x.born == e.born with
     | false => rfl
     | true => exact absurd (ali06.2 ⟨e, h, (beq_iff_eq.1 hc).symm⟩) hn'.1
    rw [seenLen, seenLen, seenLen_push seen e hs l hn'.2 h, contains_push, hx, Bool.or_false]
    omega
theorem seenLen_none : ∀ es : List MapEntry, seenLen es #[] = 0
 | [] => rfl
 | x :: l => by rw [seenLen, seenLen_none l]; simp
theorem seenLen_bd {es : List MapEntry} (hv : ∀ x ∈ es, 0 ≤ nOf x.val) (seen : Array Nat) : 0 ≤ seenLen es seen ∧ seenLen es seen ≤ (es.map fun x => nOf x.val).sum := by
 induction es with
 | nil => exact ⟨alj06 _, alj06 _⟩
 | cons x l ih =>
   have h1 := ih fun y hy => hv y (.tail _ hy)
   have h2 := hv x (.head _)
   rw [seenLen, ali17, List.sum_cons]
   split <;> omega
theorem seenLen_all (es : Array MapEntry) (seen : Array Nat) (h : (leftOf es seen).size = 0) : seenLen es.toList seen = (es.toList.map fun x => nOf x.val).sum := by
 have hall : ∀ x ∈ es.toList, seen.contains x.born = true := by
  intro x hx
  cases hc : seen.contains x.born with
  | true => rfl
  | false =>
    have : x ∈ leftOf es seen := Array.mem_filter.2 ⟨Array.mem_toList_iff.1 hx, by rw [hc]; rfl⟩
    have h0 := Array.eq_empty_of_size_eq_zero h
    rw [h0] at this
    simp at this
 generalize es.toList = l at hall
 induction l with
 | nil => rfl
 | cons x l ih =>
   rw [seenLen, hall x (.head _), ali17, List.sum_cons, ih fun y hy => hall y (.tail _ hy)]
   simp
set_option maxRecDepth 1000000 in
theorem bytes_walk (bm : Nat) (es : Array MapEntry) (clock : Nat) (w : World) (hb : w.heap[bm]? = some (.map es clock)) (hst : MapKept.Stamped es clock) (hv : ∀ x ∈ es.toList, ∃ a n c, x.val = .slice a n c) (hs : (es.toList.map fun x => nOf x.val).sum ≤ 1099511627776) :
  Cal 346 #[.map (some bm)] w fun e w' => e = Value.int .i64 ((es.toList.map fun x => nOf x.val).sum) ∧ ∃ (w1 : World) (seen : Array Nat), w1.Alike w ∧ w1.tape = w.tape ∧ w' = w1.alloc (.mapIter (some bm) clock seen clock) := by
 have hrg := run_range_map (P := Tryz.prog) w 234 tInt 43 bm es clock Tryz.underlying234 hb
 have hnn : ∀ x ∈ es.toList, 0 ≤ nOf x.val := fun x hx => by
  obtain ⟨a, n, c, e⟩ := hv x hx
  rw [e]; exact Int.natCast_nonneg n
 go_enter Tryz.func346, Tryz.ntmps346
 go_wp2
 go_loopw [3] (fun s w' => ∃ (w1 : World) (seen : Array Nat), w1.Alike w ∧ w1.tape = w.tape ∧ w' = w1.alloc (.mapIter (some bm) clock seen clock) ∧ s = .int .i64 (seenLen es.toList seen)) (fun _ w' => (leftOf es (w'.iterSeen w)).size)
 case atStart => exact ⟨w, #[], ⟨rfl, rfl, rfl⟩, rfl, rfl, by rw [seenLen_none]⟩
 case round =>
  obtain ⟨w1, seen, hal, htp, rfl, rfl⟩ := hrel
  have hsz : w1.heap.size = w.heap.size := by rw [hal.1]
  have hb1 : w1.heap[bm]? = some (.map es clock) := by rw [hal.1]; exact hb
  have law := run_next_map (P := Tryz.prog) w1 0 bm clock clock seen es clock hb1 hst.1 (ali34 _)
  rw [hsz] at law
  rcases law with ⟨h0, hrun⟩ | ⟨e, he, w2, hal2, hrun⟩
  ·have hnx : ∀ ty, (Instr.next (.pointer (pzq w.heap.size)) false ty).run Tryz.prog (w1.alloc (.mapIter (some bm) clock seen clock)) = _ := fun _ => hrun
   go_wp2
   go_ret
   rw [seenLen_all es seen h0]
   exact ⟨rfl, w1, seen, hal, htp, rfl⟩
  ·obtain ⟨va, vn, vc, hval⟩ := hv e (mem_left he).1
   have hr1 : (w1.alloc (.mapIter (some bm) clock seen clock)).heap[w.heap.size]? = some (.mapIter (some bm) clock seen clock) := by rw [← hsz]; exact heap_alloc_new w1 _
   have hm1 : (w1.alloc (.mapIter (some bm) clock seen clock)).heap[bm]? = some (.map es clock) := by rw [heap_alloc_old w1 _ (by have := (ali22.1 hb1).1; omega)]; exact hb1
   have htp2 : w2.tape = w1.tape := by have := next_tape hr1 hm1 hrun; exact this
   rw [hval] at hrun
   have hnx : ∀ ty, (Instr.next (.pointer (pzq w.heap.size)) false ty).run Tryz.prog (w1.alloc (.mapIter (some bm) clock seen clock)) = _ := fun _ => hrun
   have hsz2 : w2.heap.size = w.heap.size := by rw [hal2.1, hal.1]
   have hb2 : w2.heap[bm]? = some (.map es clock) := by rw [hal2.1]; exact hb1
   have hen := run_entry_map (P := Tryz.prog) w2 bm clock seen es clock e hb2 (mem_left he).1 hst.2.1
   rw [hsz2, hval] at hen
   go_wp2
   go_roundw
   case rel =>
    refine ⟨w2, seen.push e.born, ⟨hal2.1.trans hal.1, hal2.2.1.trans hal.2.1, hal2.2.2.trans hal.2.2⟩, htp2.trans htp, rfl, ?_⟩
    have hp := seenLen_push seen e (mem_left he).2 es.toList hst.2.1 (mem_left he).1
    have hbd := seenLen_bd hnn (seen.push e.born)
    rw [hval] at hp
    have hp : seenLen es.toList (seen.push e.born) = seenLen es.toList seen + (vn : Int) := hp
    have hw : Go.RowKit.wrap64 (seenLen es.toList seen + (vn : Int)) = seenLen es.toList (seen.push e.born) := by
     unfold Go.RowKit.wrap64
     omega
    exact congrArg _ hw
   case measure =>
    rw [← hsz2, World.iterSeen_alloc, hsz2, ← hsz, World.iterSeen_alloc]
    exact left_shrinks es seen e he
end Go.Proofs.YtjcnjlaelhdjeaaGreatDoor
namespace Go.Proofs.YtjcnjlaelhdjeaaGreatDoor
open Go Go.Vc Go.RowKit Go.Proofs Go.Chk Go.Runs Go.Code
abbrev tW : TypeId := 337
abbrev Bl := Int × Sl × List Int
def entV (x : Bl) : Value × Value := (x.1, .slice x.2.1.a x.2.1.n x.2.1.c)
abbrev wV (x : Bl) : LV := [.int .i64 x.1, .slice x.2.1.a x.2.1.n x.2.1.c]
abbrev kb (x : Bl) : Wr1 := (x.1, x.2.2)
structure BlOk (w : World) (x : Bl) : Prop where
 o : OwY 0 w x.2.1 x.2.2
 b : Bys x.2.2
structure Dm where
 r : Nat
 ls : Sl
 E : List Bl
 W : List Bl
structure DO (w : World) (d : Nat) (m : Dm) (D : Dk) : Prop where
 rd : Row w d [D.room, D.fails, D.wait, .map (some m.r), .slice m.ls.a m.ls.n m.ls.c] tDisk
 rm : MapIs GI w (some m.r) (m.E.map entV)
 ol : OwnK 0 tW 2 w m.ls (m.W.map wV)
 sf : (m.E.map kb).Perm D.safe
 sl : m.W.map kb = D.l
 bl : ∀ x ∈ m.E ++ m.W, BlOk w x
 ok : DkOk D
def dF (d : Nat) (m : Dm) (i : Nat) : Prop := i = d ∨ i = m.r ∨ m.ls.blk = some i ∨ ∃ x ∈ m.E ++ m.W, x.2.1.blk = some i
theorem DO.lt {w : World} {d : Nat} {m : Dm} {D : Dk} (h : DO w d m D) {i : Nat} (hi : dF d m i) : i < w := by
 rcases hi with rfl | rfl | e | ⟨x, hx, e⟩
 ·exact h.rd.lt
 ·exact h.rm.lt
 ·exact (h.ol.own.lt e).2
 ·exact ((h.bl x hx).o.own.lt e).2
theorem DO.same {w w' : World} {d : Nat} {m : Dm} {D : Dk} (h : DO w d m D) (hs : ∀ i, dF d m i → w'.heap[i]? = w.heap[i]?) : DO w' d m D :=
 ⟨h.rd.same (hs _ (.inl rfl)), h.rm.same (hs _ (.inr (.inl rfl))), OwnK.keep h.ol fun b hb => hs b (.inr (.inr (.inl hb))), h.sf, h.sl, fun x hx => ⟨OwnK.keep (h.bl x hx).o fun b hb => hs b (.inr (.inr (.inr ⟨x, hx, hb⟩))), (h.bl x hx).b⟩, h.ok⟩
theorem DO.ext {w w' : World} {d : Nat} {m : Dm} {D : Dk} (h : DO w d m D) (x : Ext w w') : DO w' d m D := h.same fun i hi => x.heap (h.lt hi)
theorem DO.nW {w : World} {d : Nat} {m : Dm} {D : Dk} (h : DO w d m D) : m.ls.n = m.W.length ∧ m.W.length = D.l.length := by
 have h1 := (h.ol.rd dcc).n
 rw [ali01] at h1
 exact ⟨h1, by rw [← h.sl, ali01]⟩
theorem DO.kind {w : World} {d : Nat} {m : Dm} {D : Dk} (h : DO w d m D) {i : Nat} (hi : dF d m i) : MapIs GI w (some i) (m.E.map entV) ∨ ∃ cs τ, Row w i cs τ ∧ (τ = tDisk ∨ τ = tW ∨ τ = tByte) := by
 rcases hi with e | e | e | ⟨x, hx, e⟩
 ·exact .inr ⟨_, _, e ▸ h.rd, .inl rfl⟩
 ·exact .inl (e ▸ h.rm)
 ·obtain ⟨cs, hr⟩ := own_row h.ol dcc e
  exact .inr ⟨_, _, hr, .inr (.inl rfl)⟩
 ·obtain ⟨cs, hr⟩ := own_row (h.bl x hx).o dcc e
  exact .inr ⟨_, _, hr, .inr (.inr rfl)⟩
theorem insL_ent (E : List Bl) (x : Bl) : insL (E.map entV) (x.1) (.slice x.2.1.a x.2.1.n x.2.1.c) = (insE (fun y : Bl => y.1) E x).map entV := by
 have key : ∀ y : Bl, (entV y).1 = .int .i64 x.1 ↔ y.1 = x.1 := fun y => by unfold entV; simp
 have ex : (∃ e ∈ E.map entV, e.1 = Value.int .i64 x.1) ↔ ∃ y ∈ E, y.1 = x.1 := by
  constructor
  ·rintro ⟨e, he, q⟩
   obtain ⟨y, hy, rfl⟩ := ali06.1 he
   exact ⟨y, hy, (key y).1 q⟩
  ·rintro ⟨y, hy, q⟩
   exact ⟨_, ali06.2 ⟨y, hy, rfl⟩, (key y).2 q⟩
 unfold insL insE
 by_cases h : ∃ y ∈ E, y.1 = x.1
 ·rw [if_pos (ex.2 h), if_pos h, alj35, alj35]
  refine alj34 fun y _ => ?_
  simp only [Function.comp]
  by_cases q : y.1 = x.1
  ·rw [if_pos ((key y).2 q), if_pos q]; unfold entV; rw [q]
  ·rw [if_neg fun q' => q ((key y).1 q'), if_neg q]
 ·rw [if_neg fun q => h (ex.1 q), if_neg h, ali08]; rfl
theorem foldl_step {l s : List Wr1} {k : Nat} {x : Wr1} (h : l[k]? = some x) : (l.take (k + 1)).foldl lay s = lay ((l.take k).foldl lay s) x := by
 rw [ali09, h, alj22]; rfl
set_option maxRecDepth 100000 in
theorem dNow_spec {w : World} {d : Nat} {m : Dm} {D : Dk} (h : DO w d m D) (hW : D.l.length ≤ 1000000000) : Cal 333 #[d] w fun e w' => ∃ (r' : Nat) (E' : List Bl), e = Value.map (some r') ∧ MapIs GI w' (some r') (E'.map entV) ∧ (E'.map kb).Perm (nowD D) ∧ (∀ x ∈ E', x ∈ m.E ++ m.W) ∧ Ext w w' ∧ w.heap.size ≤ r' := by
 apply disk_Disk_now.vc
 obtain ⟨n1, n2⟩ := h.nW
 refine ⟨some m.r, h.rd.at 3 rfl, (mapsClone_spec h.rm).mono ?_⟩
 rintro e w1 ⟨rfl, hm, x1⟩
 refine ⟨_, rfl, m.ls, (h.ext x1).rd.at 4 rfl, fun n i wr => ∃ (k : Nat) (E' : List Bl), i = k ∧ k + n = m.W.length ∧ MapIs GI wr (some w.heap.size) (E'.map entV) ∧ (E'.map kb).Perm ((D.l.take k).foldl lay D.safe) ∧ (∀ x ∈ E', x ∈ m.E ++ m.W) ∧ Ext w wr,
  ⟨m.W.length, 0, m.E, rfl, by omega, hm, h.sf, fun x hx => ali25.2 (.inl hx), x1⟩, ?_⟩
 rintro n us i wr ⟨k, E', rfl, hk, hm, hp, hsub, xr⟩
 apply Br.mk <;> intro hc
 ·replace hc := q0T hc
  obtain ⟨x, hx⟩ := get_lt (l := m.W) (i := k) omm
  have hr := (h.ext xr).ol.rd (show 0 < 2 by decide)
  have hm2 : (m.W.map wV)[k]? = some (wV x) := by rw [ali02, hx]; rfl
  have wk := wkS (j := k)
  have hl : D.l[k]? = some (kb x) := by rw [← h.sl, ali02, hx]; rfl
  refine ⟨RdK.inB hr dcc omm hc, x.1, x.2.1, RdK.loadL hr hm2, fun w12 e12 w13 e13 => ?_⟩
  have x13 : Ext wr w13 := (eaa e12).of_setRow e13 (ali34 _)
  refine ⟨GI, E'.map entV, intKey, rfl, hm.same (x13.heap hm.lt), ⟨_, rfl⟩, fun w16 hrec hm16 => ?_⟩
  rw [insL_ent] at hm16
  refine ⟨n - 1, by omega, k + 1, _, wk, by omega, hm16, ?_, fun y hy => ?_, (Mod.of_rec hrec).ext (xr.tr x13) fun i hi => by rw [hi]; exact ali34 _⟩
  ·rw [foldl_step hl]
   exact insE_lay (f := fun y : Bl => y.1) (g := fun y : Bl => y.2.2) x hp (foldl_nodup _ h.ok.nd)
  ·rcases insE_mem hy with rfl | hy
   ·exact ali25.2 (.inr (ali00 hx))
   ·exact hsub y hy
 ·replace hc := q0F hc
  rw [ali11 omm] at hp
  exact ⟨w.heap.size, E', rfl, hm, hp, hsub, xr, ali34 _⟩
theorem lenB_sum (E : List Bl) : ((lenB (E.map kb) : Nat) : Int) = (E.map fun x => (x.2.2.length : Int)).sum := by
 induction E with
 | nil => rfl
 | cons x t ih =>
   rw [ali17, lenB_cons, ali17, List.sum_cons, ← ih]
   have : (kb x).2.length = x.2.2.length := rfl
   omega
theorem dBytes_spec {w : World} {r : Nat} {E : List Bl} (hm : MapIs GI w (some r) (E.map entV)) (hb : ∀ x ∈ E, BlOk w x) (hn : lenB (E.map kb) ≤ 1099511627776) : Cal 346 #[.map (some r)] w fun e w' => e = Value.int .i64 (lenB (E.map kb) : Nat) ∧ Ext w w' := by
 obtain ⟨es, clock, h1, h2, h3, h4, h5, h6⟩ := hm
 have hk : es.toList.map (·.key) = (E.map entV).map (·.1) := by rw [← h2, alj35]; rfl
 have hv : ∀ x ∈ es.toList, ∃ y ∈ E, x.val = .slice y.2.1.a y.2.1.n y.2.1.c := fun x hx => by
  have : (x.key, x.val) ∈ E.map entV := by rw [← h2]; exact ali06.2 ⟨x, hx, rfl⟩
  obtain ⟨y, hy, e⟩ := ali06.1 this
  refine ⟨y, hy, ?_⟩
  have := congrArg Prod.snd e
  exact this.symm
 have hs : (es.toList.map fun x => nOf x.val).sum = (lenB (E.map kb) : Nat) := by
  rw [lenB_sum]
  have e1 : (es.toList.map fun x => nOf x.val) = (E.map entV).map fun e => nOf e.2 := by rw [← h2, alj35]; rfl
  rw [e1, alj35]
  congr 1
  refine alj34 fun x hx => ?_
  show ((x.2.1.n : Nat) : Int) = _
  rw [RdY.n (OwY.rdy (hb x hx).o)]
 have hst : MapKept.Stamped es clock := ⟨h6, h5.imp fun h => Nat.ne_of_lt h, by rw [hk]; exact h4⟩
 refine (bytes_walk r es clock w h1 hst (fun x hx => by obtain ⟨y, _, e⟩ := hv x hx; exact ⟨_, _, _, e⟩) (by rw [hs]; omega)).mono ?_
 rintro e w' ⟨rfl, w1, seen, ⟨a1, a2, a3⟩, a4, rfl⟩
 refine ⟨by rw [hs], ?_⟩
 have x1 : Ext w w1 := ⟨a2, a4, a3, by rw [a1]; exact ali34 _, fun i _ => by rw [a1]⟩
 exact x1.of_alloc rfl
theorem look_now {E : List Bl} {s : List Wr1} (hp : (E.map kb).Perm s) (hn : (keysOf s).Nodup) (k : Int) (w : World) (hb : ∀ x ∈ E, BlOk w x) : ∃ (t : Sl) (b : Bool), Look (E.map entV) (k) (.slice none 0 0) (t) b ∧ OwY 0 w t ((getB s k).getD []) ∧ Bys ((getB s k).getD []) ∧ b = (getB s k).isSome := by
 have hne : (keysOf (E.map kb)).Nodup := (hp.map fun x : Wr1 => x.1).nodup_iff.2 hn
 rw [← getB_perm hp hne]
 cases q : getB (E.map kb) k with
 | none =>
   refine ⟨⟨none, 0, 0⟩, false, .inr ⟨rfl, rfl, fun e he => ?_⟩, OwnK.nil, (fun c hc => by cases hc), rfl⟩
   obtain ⟨x, hx, rfl⟩ := ali06.1 he
   have := getB_none.1 q (kb x) (ali06.2 ⟨x, hx, rfl⟩)
   unfold entV
   simpa using this
 | some b =>
   obtain ⟨x, hx, e⟩ := ali06.1 ((getB_some hne).1 q)
   have e1 : x.1 = k := congrArg Prod.fst e
   have e2 : x.2.2 = b := congrArg Prod.snd e
   refine ⟨x.2.1, true, .inl ⟨rfl, ali06.2 ⟨x, hx, by unfold entV; rw [e1]⟩⟩, ?_, ?_, rfl⟩
   ·have := (hb x hx).o
    rw [e2] at this; exact this
   ·have := (hb x hx).b
    rw [e2] at this; exact this
theorem getB_le {s : List Wr1} (hn : (keysOf s).Nodup) (k : Int) : ((getB s k).getD []).length ≤ lenB s := by
 have := lenB_filter hn k; omega
theorem dGet_spec {w : World} {d : Nat} {m : Dm} {D : Dk} (h : DO w d m D) (hW : D.l.length ≤ 1000000000) (k : Int) : Cal 284 #[d, k] w fun e w' => ∃ (s : Sl) (b : Bool), e = Value.tuple #[s, b] ∧ OwY w w' s (getD D k) ∧ Bys (getD D k) ∧ (getD D k).length ≤ 1048576 ∧ Ext w w' := by
 apply disk_Disk_Get.vc
 refine (dNow_spec h hW).mono ?_
 rintro e w0 ⟨r', E', rfl, hm, hp, hsub, x0, hr⟩
 have hb : ∀ x ∈ E', BlOk w0 x := fun x hx => (h.ext x0).bl x (hsub x hx)
 obtain ⟨t, b, hl, ho, hby, -⟩ := look_now hp h.ok.now k w0 hb
 have hle := getB_le h.ok.now k
 have hnl := h.ok.nlen
 have hrm := h.ok.r
 refine ⟨_, rfl, GI, _, intKey, hm, ⟨k, rfl⟩, t, b, hl, (cloneY_spec t _ w0 (OwY.rdy ho) omm).mono ?_⟩
 rintro e w6 ⟨s7, rfl, o7, x6⟩
 refine ⟨s7, rfl, s7, b, rfl, OwnK.low o7 x0.size, hby, ?_, x0.tr x6⟩
 show ((getB (nowD D) k).getD []).length ≤ _
 omega
theorem DO.row {w w' : World} {d : Nat} {m : Dm} {D : Dk} (h : DO w d m D) {F W : Int} (hm : Mod (fun i => i = d) w w') (hr : Row w' d [D.room, F, W, .map (some m.r), .slice m.ls.a m.ls.n m.ls.c] tDisk) (hok : DkOk { D with fails := F, wait := W }) : DO w' d m { D with fails := F, wait := W } := by
 refine ⟨hr, hm.map h.rm fun e => h.rd.ne_map h.rm e.symm, hm.ownK h.ol fun b hb e => ?_, h.sf, h.sl, fun x hx => ⟨hm.ownK (h.bl x hx).o fun b hb e => ?_, (h.bl x hx).b⟩, hok⟩
 ·obtain ⟨cs, hr'⟩ := own_row h.ol dcc hb
  exact hr'.ne h.rd dcc e
 ·obtain ⟨cs, hr'⟩ := own_row (h.bl x hx).o dcc hb
  exact hr'.ne h.rd dcc e
theorem failed_spec {w : World} {d : Nat} {m : Dm} {D : Dk} (h : DO w d m D) : Cal 345 #[d] w fun e w' => e = Value.bool (askD D).2 ∧ DO w' d m (askD D).1 ∧ Mod (fun i => i = d) w w' := by
 apply disk_Disk_failed.vc
 have hok := h.ok.ask
 have hw := h.ok.w
 have hf := h.ok.f
 refine ⟨D.wait, h.rd.at 2 rfl, Br.mk (fun hc => ?_) (fun hc => ?_)⟩
 ·simp only [gt_iff_lt, ali27] at hc
  have e : askD D = ({ D with wait := 0 }, false) := by unfold askD; rw [if_pos hc]
  have e1 : wqq (D.wait - 1) = 0 := by rw [wI]; omega
  rw [e] at hok ⊢
  obtain ⟨p1, p2⟩ := h.rd.put1 (j := 2) (v := .int .i64 0) smm rfl
  refine ⟨_, h.rd.at 2 rfl, ?_⟩
  rw [e1]
  refine ⟨⟨rfl, p1⟩, fun w2 e2 => ⟨rfl, ?_⟩⟩
  obtain ⟨q1, q2⟩ := p2 w2 e2
  exact ⟨h.row q2 q1 hok, q2⟩
 ·simp only [gt_iff_lt, ali28] at hc
  refine ⟨D.fails, h.rd.at 1 rfl, Br.mk (fun hc2 => ?_) (fun hc2 => ?_)⟩
  ·simp only [gt_iff_lt, ali27] at hc2
   have e : askD D = ({ D with fails := D.fails - 1 }, true) := by unfold askD; rw [if_neg hc, if_pos hc2]
   rw [e] at hok ⊢
   obtain ⟨p1, p2⟩ := h.rd.put1 (j := 1) (v := .int .i64 (wqq (D.fails - 1))) smm rfl
   refine ⟨_, h.rd.at 1 rfl, ⟨rfl, p1⟩, fun w2 e2 => ⟨by rw [decide_eq_true hc2], ?_⟩⟩
   obtain ⟨q1, q2⟩ := p2 w2 e2
   have e1 : wqq (D.fails - 1) = D.fails - 1 := wI
   rw [e1] at q1
   exact ⟨h.row q2 q1 hok, q2⟩
  ·simp only [gt_iff_lt, ali28] at hc2
   have e : askD D = (D, false) := by unfold askD; rw [if_neg hc, if_neg hc2]
   rw [e]
   exact ⟨by rw [decide_eq_false hc2], h, Mod.refl _ _⟩
end Go.Proofs.YtjcnjlaelhdjeaaGreatDoor
namespace Go.Proofs.YtjcnjlaelhdjeaaGreatDoor
open Go Go.Vc Go.RowKit Go.Proofs Go.Chk Go.Runs Go.Code
theorem ldOne {w : World} {p : Option Addr} {v : Value} (h : ld w p = some v) : LoadL w p 0 [v] := by
 show ld w (padd p 0) = _
 rw [padd_zero]; exact h
theorem one_is (k : Int) (a : Option Addr) (n c : Nat) : One [Value.int .i64 k, Value.slice a n c] := by
 intro v hv
 simp at hv
 rcases hv with rfl | rfl <;> rfl
theorem now_ask (D : Dk) : nowD (askD D).1 = nowD D := by
 obtain ⟨e1, e2, -⟩ := askD_safe D
 unfold nowD; rw [e1, e2]
theorem DO.ls_ne {w : World} {d : Nat} {m : Dm} {D : Dk} (h : DO w d m D) : ∀ b, m.ls.blk = some b → b ≠ d := fun b hb => by
 obtain ⟨cs, hr⟩ := own_row h.ol dcc hb
 exact hr.ne h.rd dcc
def DRes (w : World) (d : Nat) (m : Dm) (D : Dk) (w' : World) : Prop := ∃ m', DO w' d m' D ∧ Mod (fun i => i = d ∨ m.ls.blk = some i) w w' ∧ (∀ i, dF d m' i → dF d m i ∨ w.heap.size ≤ i) ∧ ∀ i, m'.ls.blk = some i → m.ls.blk = some i ∨ w.heap.size ≤ i
set_option maxRecDepth 100000 in
theorem dPut_spec {w : World} {d : Nat} {m : Dm} {D : Dk} (h : DO w d m D) (hW : D.l.length ≤ 1000000000) (key : Int) (s : Sl) (b : List Int) (hs : RdY w s b) (hb : Bys b) (hn : b.length ≤ 1099511627776) (hsd : s.blk ≠ some d) :
  Cal 293 #[d, key, s] w fun e w' => e = Value.int .i64 (putD D key b).2 ∧ DRes w d m (putD D key b).1 w' := by
 apply (disk_Disk_Put.vc (a2 := s))
 have hsn := RdY.n hs
 refine (failed_spec h).mono ?_
 rintro e w0 ⟨rfl, h0, m0⟩
 have z0 := m0.size
 have m0' : Mod (fun i => i = d ∨ m.ls.blk = some i) w w0 := m0.mono fun i _ hi => .inl hi
 refine ⟨_, rfl, Br.mk (fun hf => ?_) (fun hf => ?_)⟩
 ·have e : putD D key b = ((askD D).1, 9) := by unfold putD; rw [if_pos hf]
  rw [e]
  exact ⟨rfl, m, h0, m0', fun i hi => .inl hi, fun i hi => .inl hi⟩
 obtain ⟨e1, e2, e3⟩ := askD_safe D
 have hs0 : RdY w0 s b := m0.rdK dcc hs fun _ g hg e => hsd (e ▸ hg)
 refine (dNow_spec h0 (by rw [e2]; exact hW)).mono ?_
 rintro e w2 ⟨r', E', rfl, hm2, hp, hsub, x2, hr'⟩
 rw [now_ask] at hp
 have hnd := h.ok.now
 have hnl := h.ok.nlen
 have hrm := h.ok.r
 have hbE : ∀ x ∈ E', BlOk w2.drew x := fun x hx => (h0.ext (x2.tr (Ext.dr w2))).bl x (hsub x hx)
 have hm2' : MapIs GI w2.drew (some r') (E'.map entV) := hm2.same ((Ext.dr w2).heap hm2.lt)
 obtain ⟨t, tb, hl, hto, htb, -⟩ := look_now hp hnd key w2.drew hbE
 have htn := RdY.n (OwY.rdy hto)
 have hll := lenB_lay hnd (key, b)
 have hlE : lenB (E'.map kb) = lenB (nowD D) := lenB_perm hp
 simp only at hll
 have hg : ((getB (nowD D) key).getD []).length ≤ lenB (nowD D) := getB_le hnd key
 rw [← htn] at hll hg
 have wl : wqq (((lenB (E'.map kb) : Nat) : Int) - ((t.n : Nat) : Int)) = ((lenB (nowD D) : Nat) : Int) - t.n := by rw [hlE, wI]
 have wr : wqq (D.room - ((s.n : Nat) : Int)) = D.room - s.n := wI
 have hd0 : ∀ {v : World}, Ext w0 v → ld v (padd (pzq d) 0) = some (.int .i64 D.room) := fun x => by
  have := (h0.ext x).rd.at 0 rfl
  rw [e3] at this; exact this
 have x2d := x2.tr (Ext.dr w2)
 have hby := dBytes_spec (w := w2.drew) hm2' hbE (by rw [hlE]; omega)
 refine ⟨_, rfl, D.room, hd0 x2d, ?_, ?_⟩
 ·refine hby.mono ?_
  rintro e v ⟨rfl, xv⟩
  have xv0 := x2d.tr xv
  refine ⟨_, rfl, ldOne (hd0 xv0), GI, _, intKey, hm2'.same (xv.heap hm2'.lt), ⟨key, rfl⟩, t, tb, hl, ldOne (hd0 xv0), ?_⟩
  rw [wl, wr]
  apply Br.mk <;> intro hc
  ·simp only [gt_iff_lt, ali27] at hc
   have e : putD D key b = ((askD D).1, 8) := by unfold putD; rw [if_neg (by rw [hf]; decide), if_pos omm]
   rw [e]
   have zv := xv0.size
   exact ⟨rfl, m, h0.ext xv0, m0'.trans (Mod.of_ext xv0), fun i hi => .inl hi, fun i hi => .inl hi⟩
  ·simp only [gt_iff_lt, ali28] at hc
   have e : putD D key b = ({ (askD D).1 with l := D.l ++ [(key, b)] }, 0) := by unfold putD; rw [if_neg (by rw [hf]; decide), if_neg omm]
   have hok := h.ok.put key b
   rw [e] at hok ⊢
   have xvd := xv0.tr (Ext.dr v)
   refine ⟨m.ls, (h0.ext xvd).rd.at 4 rfl, (cloneY_spec s b v.drew (hs0.ext xvd) hn).mono ?_⟩
   rintro e w12 ⟨s13, rfl, o13, x12⟩
   have x012 := xvd.tr x12
   have h12 := h0.ext x012
   obtain ⟨n1, n2⟩ := h12.nW
   rw [e2] at n2
   refine ⟨s13, rfl, ldOne (h12.rd.at 4 rfl), fun w14 e14 => ?_⟩
   subst e14
   obtain ⟨hp2, hres⟩ := OwnK.app1 h12.ol (bytes := 32) (news := wV (key, s13, b)) (.cells #[key, s13] tW) (alj66 _) rfl (one_is _ _ _ _) omm omm
   refine ⟨hp2, fun s15 w16 hr => ?_⟩
   obtain ⟨f1, ho16, hn16, xb, hk16, hblk⟩ := hres s15 w16 hr
   have m16 : Mod (fun j => m.ls.blk = some j) w12 w16 := Mod.of_app xb hk16
   have rd16 := m16.row h12.rd fun q => h12.ls_ne _ q rfl
   obtain ⟨p1, p2⟩ := rd16.put1 (j := 4) (v := .slice s15.a s15.n s15.c) smm rfl
   have z12 := x012.size
   have hdl := h.rd.lt
   refine ⟨f1, ⟨rfl, p1⟩, fun q => ?_, fun w17 e17 => ⟨rfl, { m with ls := s15, W := m.W ++ [(key, s13, b)] }, ?_, ?_, ?_, ?_⟩⟩
   ·rw [pblk_padd] at q
    have : d = w12.heap.size := by simpa [pblk] using q
    omega
   ·obtain ⟨q1, q2⟩ := p2 w17 e17
    have mm : Mod (fun j => j = d ∨ m.ls.blk = some j) w12 w17 := (m16.mono fun i _ hi => .inr hi).trans (q2.mono fun i _ hi => .inl hi)
    have off : ∀ {g : Nat} {cs : LV} {τ : TypeId}, Row w12 g cs τ → τ ≠ tDisk → τ ≠ tW → ¬ (g = d ∨ m.ls.blk = some g) := fun hr' t1 t2 q => by
     rcases q with q | q
     ·exact hr'.ne h12.rd t1 q
     ·obtain ⟨cs', hr2⟩ := own_row h12.ol dcc q
      exact hr'.ne hr2 t2 rfl
    refine ⟨q1, mm.map h12.rm fun q => ?_, ?_, h12.sf, ?_, fun x hx => ?_, hok⟩
    ·rcases q with q | q
     ·exact h12.rd.ne_map h12.rm q.symm
     ·obtain ⟨cs', hr2⟩ := own_row h12.ol dcc q
      exact hr2.ne_map h12.rm rfl
    ·show OwnK 0 tW 2 w17 s15 ((m.W ++ [(key, s13, b)]).map wV)
     rw [ali08]
     refine q2.ownK ho16 fun g hg => ?_
     obtain ⟨cs', hr2⟩ := own_row ho16 dcc hg
     exact hr2.ne rd16 dcc
    ·show (m.W ++ [(key, s13, b)]).map kb = D.l ++ [(key, b)]
     rw [ali08, h.sl]; rfl
    ·have hx : x ∈ m.E ++ m.W ∨ x = (key, s13, b) := by
      simp only [ali25, ali16, ali36, or_false] at hx ⊢
      rcases hx with hx | hx | hx
      ·exact .inl (.inl hx)
      ·exact .inl (.inr hx)
      ·exact .inr hx
     have hbx : BlOk w12 x := by
      rcases hx with hx | rfl
      ·exact h12.bl x hx
      ·exact ⟨OwnK.low o13 (alj66 _), hb⟩
     refine ⟨mm.ownK hbx.o fun g hg => ?_, hbx.b⟩
     obtain ⟨cs', hr2⟩ := own_row hbx.o dcc hg
     exact off hr2 dcc dcc
   ·obtain ⟨q1, q2⟩ := p2 w17 e17
    refine (m0'.trans (Mod.of_ext x012)).trans ((m16.mono fun i _ hi => .inr hi).trans (q2.mono fun i _ hi => .inl hi))
   ·rintro i (q | q | q | ⟨x, hx, q⟩)
    ·exact .inl (.inl q)
    ·exact .inl (.inr (.inl q))
    ·rcases hblk with q' | q'
     ·exact .inl (.inr (.inr (.inl (by rw [← q']; exact q))))
     ·rw [q'] at q; cases q; exact .inr omm
    ·simp only [ali25, ali16, ali36, or_false] at hx
     rcases hx with hx | hx | rfl
     ·exact .inl (.inr (.inr (.inr ⟨x, ali25.2 (.inl hx), q⟩)))
     ·exact .inl (.inr (.inr (.inr ⟨x, ali25.2 (.inr hx), q⟩)))
     ·have := (o13.own.lt q).1
      have zv := xvd.size
      exact .inr omm
   ·intro i q
    rcases hblk with q' | q'
    ·exact .inl (by rw [← q']; exact q)
    ·have q : s15.blk = some i := q
     rw [q'] at q; cases q; exact .inr omm
 ·refine ⟨GI, _, intKey, hm2', ⟨key, rfl⟩, t, tb, hl, ldOne (hd0 x2d), hby.mono ?_⟩
  rintro e v ⟨rfl, xv⟩
  have xv0 := x2d.tr xv
  refine ⟨_, rfl, ldOne (hd0 xv0), ?_⟩
  rw [wl, wr]
  apply Br.mk <;> intro hc
  ·simp only [gt_iff_lt, ali27] at hc
   have e : putD D key b = ((askD D).1, 8) := by unfold putD; rw [if_neg (by rw [hf]; decide), if_pos omm]
   rw [e]
   have zv := xv0.size
   exact ⟨rfl, m, h0.ext xv0, m0'.trans (Mod.of_ext xv0), fun i hi => .inl hi, fun i hi => .inl hi⟩
  ·simp only [gt_iff_lt, ali28] at hc
   have e : putD D key b = ({ (askD D).1 with l := D.l ++ [(key, b)] }, 0) := by unfold putD; rw [if_neg (by rw [hf]; decide), if_neg omm]
   have hok := h.ok.put key b
   rw [e] at hok ⊢
   have xvd := xv0.tr (Ext.dr v)
   refine ⟨m.ls, (h0.ext xvd).rd.at 4 rfl, (cloneY_spec s b v.drew (hs0.ext xvd) hn).mono ?_⟩
   rintro e w12 ⟨s13, rfl, o13, x12⟩
   have x012 := xvd.tr x12
   have h12 := h0.ext x012
   obtain ⟨n1, n2⟩ := h12.nW
   rw [e2] at n2
   refine ⟨s13, rfl, ldOne (h12.rd.at 4 rfl), fun w14 e14 => ?_⟩
   subst e14
   obtain ⟨hp2, hres⟩ := OwnK.app1 h12.ol (bytes := 32) (news := wV (key, s13, b)) (.cells #[key, s13] tW) (alj66 _) rfl (one_is _ _ _ _) omm omm
   refine ⟨hp2, fun s15 w16 hr => ?_⟩
   obtain ⟨f1, ho16, hn16, xb, hk16, hblk⟩ := hres s15 w16 hr
   have m16 : Mod (fun j => m.ls.blk = some j) w12 w16 := Mod.of_app xb hk16
   have rd16 := m16.row h12.rd fun q => h12.ls_ne _ q rfl
   obtain ⟨p1, p2⟩ := rd16.put1 (j := 4) (v := .slice s15.a s15.n s15.c) smm rfl
   have z12 := x012.size
   have hdl := h.rd.lt
   refine ⟨f1, ⟨rfl, p1⟩, fun q => ?_, fun w17 e17 => ⟨rfl, { m with ls := s15, W := m.W ++ [(key, s13, b)] }, ?_, ?_, ?_, ?_⟩⟩
   ·rw [pblk_padd] at q
    have : d = w12.heap.size := by simpa [pblk] using q
    omega
   ·obtain ⟨q1, q2⟩ := p2 w17 e17
    have mm : Mod (fun j => j = d ∨ m.ls.blk = some j) w12 w17 := (m16.mono fun i _ hi => .inr hi).trans (q2.mono fun i _ hi => .inl hi)
    have off : ∀ {g : Nat} {cs : LV} {τ : TypeId}, Row w12 g cs τ → τ ≠ tDisk → τ ≠ tW → ¬ (g = d ∨ m.ls.blk = some g) := fun hr' t1 t2 q => by
     rcases q with q | q
     ·exact hr'.ne h12.rd t1 q
     ·obtain ⟨cs', hr2⟩ := own_row h12.ol dcc q
      exact hr'.ne hr2 t2 rfl
    refine ⟨q1, mm.map h12.rm fun q => ?_, ?_, h12.sf, ?_, fun x hx => ?_, hok⟩
    ·rcases q with q | q
     ·exact h12.rd.ne_map h12.rm q.symm
     ·obtain ⟨cs', hr2⟩ := own_row h12.ol dcc q
      exact hr2.ne_map h12.rm rfl
    ·show OwnK 0 tW 2 w17 s15 ((m.W ++ [(key, s13, b)]).map wV)
     rw [ali08]
     refine q2.ownK ho16 fun g hg => ?_
     obtain ⟨cs', hr2⟩ := own_row ho16 dcc hg
     exact hr2.ne rd16 dcc
    ·show (m.W ++ [(key, s13, b)]).map kb = D.l ++ [(key, b)]
     rw [ali08, h.sl]; rfl
    ·have hx : x ∈ m.E ++ m.W ∨ x = (key, s13, b) := by
      simp only [ali25, ali16, ali36, or_false] at hx ⊢
      rcases hx with hx | hx | hx
      ·exact .inl (.inl hx)
      ·exact .inl (.inr hx)
      ·exact .inr hx
     have hbx : BlOk w12 x := by
      rcases hx with hx | rfl
      ·exact h12.bl x hx
      ·exact ⟨OwnK.low o13 (alj66 _), hb⟩
     refine ⟨mm.ownK hbx.o fun g hg => ?_, hbx.b⟩
     obtain ⟨cs', hr2⟩ := own_row hbx.o dcc hg
     exact off hr2 dcc dcc
   ·obtain ⟨q1, q2⟩ := p2 w17 e17
    refine (m0'.trans (Mod.of_ext x012)).trans ((m16.mono fun i _ hi => .inr hi).trans (q2.mono fun i _ hi => .inl hi))
   ·rintro i (q | q | q | ⟨x, hx, q⟩)
    ·exact .inl (.inl q)
    ·exact .inl (.inr (.inl q))
    ·rcases hblk with q' | q'
     ·exact .inl (.inr (.inr (.inl (by rw [← q']; exact q))))
     ·rw [q'] at q; cases q; exact .inr omm
    ·simp only [ali25, ali16, ali36, or_false] at hx
     rcases hx with hx | hx | rfl
     ·exact .inl (.inr (.inr (.inr ⟨x, ali25.2 (.inl hx), q⟩)))
     ·exact .inl (.inr (.inr (.inr ⟨x, ali25.2 (.inr hx), q⟩)))
     ·have := (o13.own.lt q).1
      have zv := xvd.size
      exact .inr omm
   ·intro i q
    rcases hblk with q' | q'
    ·exact .inl (by rw [← q']; exact q)
    ·have q : s15.blk = some i := q
     rw [q'] at q; cases q; exact .inr omm
end Go.Proofs.YtjcnjlaelhdjeaaGreatDoor
