import Derived.Test.YtjcnjlaelhdjeaaGreatDoorL
import Derived.Test.YtjcnjlaelhdjeaaGreatDoorF
import Derived.Test.YtjcnjlaelhdjeaaGreatDoorD
import Derived.Test.YtjcnjlaelhdjeaaGreatDoorK
import Derived.Test.YtjcnjlaelhdjeaaGreatDoorG
import Derived.Shelf.Vars
set_option linter.all false
namespace Go.Proofs.YtjcnjlaelhdjeaaGreatDoor
open Go Go.Vc Go.RowKit Go.Proofs Go.Lin Go.Chk Go.Runs Go.Code
set_option linter.unusedVariables false
theorem own_same {w w' : World} {B n : Nat} {v : Value} {xs : List Value} (h : w.ownsRow B 5 1 v n xs) (hk : ∀ i, v.ownBlock = some i → w'.heap[i]? = w.heap[i]?) : w'.ownsRow B 5 1 v n xs := by
 obtain ⟨h1, h2⟩ := h
 refine ⟨h1, h2.imp id ?_⟩
 rintro ⟨g, cap, cur, rfl, q1, q2, q3⟩
 exact ⟨g, cap, cur, rfl, q1, (hk g rfl).trans q2, q3⟩
theorem own_ge {w : World} {B n : Nat} {v : Value} {xs : List Value} (h : w.ownsRow B 5 1 v n xs) {i : Nat} (hi : v.ownBlock = some i) : B ≤ i ∧ i < w.heap.size ∧ ∃ cs, w.heap[i]? = some (.cells cs 5 (0, 0)) := by
 obtain ⟨-, h2⟩ := h
 rcases h2 with ⟨rfl, -⟩ | ⟨g, cap, cur, rfl, q1, q2, -⟩
 ·cases hi
 ·cases hi
  exact ⟨q1, (Array.getElem?_eq_some_iff.1 q2).1, _, q2⟩
theorem rdk_strs {w : World} {a : Nat} {xs : List ByteArray} (h : Row w a (xs.map Value.string) 9) : RdK w ⟨some ⟨a, 0, none⟩, xs.length, xs.length⟩ 1 (xs.map sv) := by
 refine ⟨(List.length_map _).symm, fun q hq => ?_, fun i q hi j v hj => ?_⟩
 ·obtain ⟨t, -, rfl⟩ := List.mem_map.1 hq
  rfl
 ·rw [List.getElem?_map] at hi
  obtain ⟨t, ht, rfl⟩ := Option.map_eq_some_iff.1 hi
  cases j with
  | succ j => simp at hj
  | zero =>
    simp at hj
    subst hj
    rw [padd_row, h.ld, List.getElem?_map]
    simp [ht]
def toldL (L : List ByteArray) (p : Nat) : Prop := p < 100 ∧ ∃ l, L[p]? = some l ∧ wordsK l ≠ []
open Classical in
noncomputable def outL (L : List ByteArray) (T : Nat → ByteArray) : Nat → List UInt8
 | 0 => []
 | p + 1 => outL L T p ++ if toldL L p then bl (T p) ++ [10] else []
theorem outL_yes {L : List ByteArray} {T : Nat → ByteArray} {p : Nat} (h : toldL L p) : outL L T (p + 1) = outL L T p ++ (bl (T p) ++ [10]) := by
 rw [outL, if_pos h]
theorem outL_no {L : List ByteArray} {T : Nat → ByteArray} {p : Nat} (h : ¬ toldL L p) : outL L T (p + 1) = outL L T p := by
 rw [outL, if_neg h, List.append_nil]
structure Rst (w : World) (L : List ByteArray) (T : Nat → ByteArray) (I : Nat → Nat → (Nat → Prop) → World → Prop) (sh ka kb p : Nat) (F : Nat → Prop) (q : Option Addr) (v : Value) (u : World) : Prop where
 i : I sh p F u
 f : ∀ i, F i → w.heap.size ≤ i
 a : Row u ka (L.map Value.string) 9
 an : ¬ F ka
 ag : w.heap.size ≤ ka
 b : Row u kb [.pointer q, v] 112
 bn : ¬ F kb
 bg : w.heap.size ≤ kb
 pp : q = none ∨ q = some ⟨kb, 0, none⟩
 o : u.ownsRow w.heap.size 5 1 v (outL L T p).length (Lib.byteCells (outL L T p))
 on : ∀ i, v.ownBlock = some i → ¬ F i
 x : Ext w u
 z : (outL L T p).length ≤ p * 1000001
theorem row_ty {w : World} {g : Nat} {cs : List Value} {t E : TypeId} {xs : Array Value} (h : Row w g cs t) (h2 : w.heap[g]? = some (.cells xs E (0, 0))) : t = E := by
 have h : w.heap[g]? = _ := h
 rw [h] at h2
 injection h2 with h2
 injection h2
theorem Rst.ob {w : World} {L : List ByteArray} {T : Nat → ByteArray} {I : Nat → Nat → (Nat → Prop) → World → Prop} {sh a b p : Nat} {F : Nat → Prop} {pp : Option Addr} {v : Value} {u : World} (h : Rst w L T I sh a b p F pp v u) : v.ownBlock ≠ some b ∧ v.ownBlock ≠ some a := by
 refine ⟨fun q => ?_, fun q => ?_⟩
 ·obtain ⟨-, -, cs, hc⟩ := own_ge h.o q
  cases row_ty h.b hc
 ·obtain ⟨-, -, cs, hc⟩ := own_ge h.o q
  cases row_ty h.a hc
theorem Run_spec {w : World} {m : Int} (hm : w.cell? ⟨0, 0, none⟩ = some (.int .i64 m)) (script : ByteArray) (hsz : script.size < 4294967281) (L : List ByteArray) (hL : Lib.splitB (ByteArray.mk #[10]) 0 (Lib.countB script (ByteArray.mk #[10])) script = L) (hn : L.length = Lib.countB script (ByteArray.mk #[10]) + 1)
  (hls : ∀ l ∈ L, l.size ≤ 4294967296) (hlm : L.length ≤ 1000000) (T : Nat → ByteArray) (I : Nat → Nat → (Nat → Prop) → World → Prop)
  (hlt : ∀ sh p F u, I sh p F u → ∀ i, F i → i < u.heap.size)
  (hsame : ∀ sh p F u u', I sh p F u → (∀ i, F i → u'.heap[i]? = u.heap[i]?) → I sh p F u')
  (hbeg : ∀ u sh g s o t F, EF F u g s o t (M0e 1 9 200000 16) occ0 noL → SHE u sh g → ¬ F sh → ∃ F', I sh 0 F' u ∧ ∀ i, F' i → F i ∨ i = sh)
  (hskip : ∀ sh p F u, I sh p F u → ¬ toldL L p → I sh (p + 1) F u)
  (hstep : ∀ sh p F u line, I sh p F u → L[p]? = some line → p < 100 → wordsK line ≠ [] → Calls Tryz.prog 14 #[.pointer (some ⟨sh, 0, none⟩), .string line] u fun e u' => e = .returned (.string (T p)) ∧ (T p).size ≤ 1000000 ∧ ∃ F', I sh (p + 1) F' u' ∧ Mod F u u' ∧ ∀ i, F' i → F i ∨ u.heap.size ≤ i) :
  Calls Tryz.prog n_lines_Run #[.string script] w fun e w' => e = .returned (.string ⟨(outL L T L.length).toArray⟩) ∧ Ext w w' := by
 apply lines_Run.vc
 unfold lines_Run.pre
 refine (shNew_spec w).mono ?_
 rintro _ w0 ⟨sh, g, s, o, t, F, rfl, hE, hS, hF, x0, hFw, hshw⟩
 refine ⟨_, rfl, ?_⟩
 intro w2 e2
 have x2 : Ext w0 w2 := by rw [e2]; exact Ext.al _ _
 have z2 : w2.heap.size = w0.heap.size + 1 := by rw [e2]; simp
 have hb2 : Row w2 w0.heap.size [.pointer none, .slice none 0 0] 112 := by rw [e2]; exact Row.new _ [_, _] _
 have hc2 : w2.cell? ⟨0, 0, none⟩ = some (.int .i64 m) := by
  have : Vc.ld w (some ⟨0, 0, none⟩) = some (.int .i64 m) := hm
  exact (x0.tr x2).ld this
 refine (Tryz.strings_Split script (ByteArray.mk #[10]) m w2 hsz hc2 (by decide)).mono ?_
 rintro _ w3 ⟨rfl, e3⟩
 rw [hL] at e3
 rw [← hn]
 have x3 : Ext w2 w3 := by rw [e3]; exact Ext.al _ _
 have z3 : w3.heap.size = w2.heap.size + 1 := by rw [e3]; simp
 have ha3 : Row w3 w2.heap.size (L.map Value.string) 9 := by rw [e3]; exact Row.new _ _ _
 have z0 := x0.size
 obtain ⟨F0, hI0, hF0⟩ := hbeg w3 sh g s o t F (hE.ext (x2.tr x3)) ⟨hS.row.ext (x2.tr x3)⟩ hF
 have f0 : ∀ i, F0 i → w.heap.size ≤ i ∧ i < w0.heap.size := fun i hi => (hF0 i hi).elim (fun q => ⟨hFw i q, hE.lt q⟩) (fun q => by have := hS.row.lt; omega)
 refine ⟨⟨some ⟨w2.heap.size, 0, none⟩, L.length, L.length⟩, rfl, x3.heap (by omega), ?_⟩
 refine ⟨fun n x u => ∃ p : Nat, x = (p : Int) ∧ p + n = L.length ∧ ∃ F pp v, Rst w L T I sh w2.heap.size w0.heap.size p F pp v u, ⟨L.length, 0, rfl, by omega, F0, none, .slice none 0 0, ?_⟩, ?_⟩
 ·refine ⟨hI0, fun i hi => (f0 i hi).1, ha3, fun q => by have := f0 _ q; omega, by omega, hb2.ext x3, fun q => by have := f0 _ q; omega, z0, .inl rfl, ⟨rfl, .inl ⟨rfl, rfl⟩⟩, fun i hi => (by cases hi), x0.tr (x2.tr x3), Nat.zero_le _⟩
 ·rintro n us x u ⟨p, rfl, hp, F, pp, v, h⟩
  have hob := h.ob
  refine Br.mk (fun c => ?_) (fun c => ?_)
  ·have c := of_decide_eq_true c
   have hpl : p < L.length := by simpa using c
   obtain ⟨line, hline⟩ : ∃ l, L[p]? = some l := ⟨_, List.getElem?_eq_getElem hpl⟩
   have wk : IntKind.wrap .i64 ((p : Int) + 1) = ((p + 1 : Nat) : Int) := by rw [wrap_in (by unfold inI; omega)]; omega
   have hrd := rdk_strs h.a
   refine ⟨hrd.inB (by decide) (by omega) (by simpa using hpl), line, ?_, ?_⟩
   ·have := hrd.rd p [.string line] (by rw [List.getElem?_map, hline]; rfl) 0 _ rfl
    simpa using this
   ·have skip : ∀ u', Ext u u' → ¬ toldL L p → ∃ n10, n10 < n ∧ ∃ q : Nat, (IntKind.wrap .i64 ((p : Int) + 1)) = (q : Int) ∧ q + n10 = L.length ∧ ∃ F pp v, Rst w L T I sh w2.heap.size w0.heap.size q F pp v u' := by
     intro u' xu hno
     refine ⟨n - 1, by omega, p + 1, wk, by omega, F, pp, v, ?_⟩
     have eo : outL L T (p + 1) = outL L T p := outL_no hno
     exact ⟨hsame _ _ _ _ _ (hskip _ _ _ _ h.i hno) fun i hi => xu.heap (hlt _ _ _ _ h.i i hi), h.f, h.a.ext xu, h.an, h.ag, h.b.ext xu, h.bn, h.bg, h.pp, by rw [eo]; exact own_same h.o fun i hi => xu.heap (own_ge h.o hi).2.1, h.on, h.x.tr xu, by have := h.z; have e := congrArg List.length eo; omega⟩
    refine Br.mk (fun c1 => ?_) (fun c1 => skip u (Ext.rfl' _) fun q => by have := q.1; simp at c1; omega)
    have hp100 : p < 100 := by have := of_decide_eq_true c1; omega
    refine (Words_spec line u (hls _ (List.mem_of_getElem? hline))).mono ?_
    rintro _ u1 ⟨sl, rfl, hrw, -, -, x1⟩
    refine ⟨sl, rfl, ?_⟩
    have hsn : sl.n = (wordsK line).length := by rw [hrw.n, List.length_map]
    refine Br.mk (fun c2 => ?_) (fun c2 => skip u1 x1 fun q => ?_)
    ·have hne : wordsK line ≠ [] := fun q => by rw [q] at hsn; simp [hsn] at c2
     have htl : toldL L p := ⟨hp100, line, hline, hne⟩
     have hFs : ∀ i, F i → i < u.heap.size := hlt _ _ _ _ h.i
     refine (hstep sh p F u1 line (hsame _ _ _ _ _ h.i fun i hi => x1.heap (hFs i hi)) hline hp100 hne).mono ?_
     rintro _ u2 ⟨rfl, hsT, F', hI', hm', hsub⟩
     have z1 := x1.size
     have z2' := hm'.size
     have hb1 := h.b.lt
     have ha1 := h.a.lt
     have kb : Row u2 w0.heap.size [.pointer pp, v] 112 := (h.b.ext x1).same (hm'.same _ (by omega) h.bn)
     have ka : Row u2 w2.heap.size (L.map Value.string) 9 := (h.a.ext x1).same (hm'.same _ (by omega) h.an)
     have ko : u2.ownsRow w.heap.size 5 1 v (outL L T p).length (Lib.byteCells (outL L T p)) := own_same h.o fun i hi => (hm'.same _ (by have := (own_ge h.o hi).2.1; omega) (h.on i hi)).trans (x1.heap (own_ge h.o hi).2.1)
     have nF' : ∀ i, ¬ F i → i < u1.heap.size → ¬ F' i := fun i hn hi q => (hsub i q).elim hn (fun q => by omega)
     refine ⟨T p, rfl, ?_, ?_⟩
     ·have e1 : (ByteArray.mk #[10]).size = 1 := rfl
      have e2 : IntKind.i64.max = 9223372036854775807 := by decide
      rw [e1, e2]
      omega
     have hzs : (T p ++ ByteArray.mk #[10]).size = (T p).size + 1 := by rw [ByteArray.size_append]; rfl
     have hz := h.z
     refine (WriteString_spec (B := w.heap.size) (bs := Lib.byteCells (outL L T p)) (T p ++ ByteArray.mk #[10]) h.pp kb (by rw [Lib.byteCells_length]; exact ko) hob.1 (by rw [Lib.byteCells_length]; omega) (by have := h.x.size; omega)).mono ?_
     rintro _ u3 ⟨rfl, ⟨v', kb3, ko3, hne3, hfr3⟩, hm3, -⟩
     have eo : outL L T (p + 1) = outL L T p ++ bl (T p ++ ByteArray.mk #[10]) := by
      rw [outL_yes htl, bl_app]
     have ecells : Lib.byteCells (outL L T p) ++ Lib.strCells (T p ++ ByteArray.mk #[10]) = Lib.byteCells (outL L T (p + 1)) := by
      rw [eo, Lib.byteCells_append]
      rfl
     rw [ecells, Lib.byteCells_length] at ko3
     have hF'lt : ∀ i, F' i → i < u2.heap.size := hlt _ _ _ _ hI'
     have hbn' : ¬ F' w0.heap.size := nF' _ h.bn (by omega)
     have hvn' : ∀ i, v.ownBlock = some i → ¬ F' i := fun i hi => nF' i (h.on i hi) (by have := (own_ge h.o hi).2.1; omega)
     have han' : ¬ F' w2.heap.size := nF' _ h.an (by omega)
     refine ⟨_, _, rfl, n - 1, by omega, p + 1, wk, by omega, F', some ⟨w0.heap.size, 0, none⟩, v', hsame _ _ _ _ _ hI' fun i hi => hm3.same i (hF'lt i hi) (fun q => q.elim (fun q => hbn' (q ▸ hi)) (fun q => hvn' i q hi)), fun i hi => (hsub i hi).elim (h.f i) (fun q => by have := h.x.size; omega), ka.same (hm3.same _ (by omega) (fun q => q.elim (by omega) (fun q => hob.2 q))), han', h.ag, kb3, hbn', h.bg, .inr rfl, ko3, fun i hi => (hfr3 i hi).elim (hvn' i) (fun q hF => by have := hF'lt i hF; omega), ?_, ?_⟩
     ·refine hm3.ext (hm'.ext (h.x.tr x1) fun i hi => h.f i hi) fun i hi => ?_
      rcases hi with rfl | hi
      ·exact h.bg
      ·exact (own_ge h.o hi).1
     ·have e := congrArg List.length eo
      rw [List.length_append, bl_len, hzs] at e
      omega
    ·obtain ⟨-, l, hl, hne⟩ := q
     rw [hline] at hl
     cases hl
     refine hne (List.length_eq_zero_iff.1 ?_)
     have : ¬ (sl.n : Int) > 0 := by simpa using c2
     omega
  ·have c := of_decide_eq_false c
   have hpn : p = L.length := by
    have : ¬ (p < L.length) := by simpa using c
    omega
   subst hpn
   have hB : Lib.IsBuilder 112 5 w.heap.size w0.heap.size (Lib.byteCells (outL L T L.length)) u := by
    have ho : u.ownsRow w.heap.size 5 1 v (Lib.byteCells (outL L T L.length)).length (Lib.byteCells (outL L T L.length)) := by rw [Lib.byteCells_length]; exact h.o
    rcases h.pp with q | q
    ·exact .inl ⟨h.bg, v, by have := h.b; rw [q] at this; exact this, ho, hob.1⟩
    ·exact .inr ⟨h.bg, v, by have := h.b; rw [q] at this; exact this, ho, hob.1⟩
   refine (Tryz.Builder_String_any _ _ _ u hB h.x.size).mono ?_
   rintro _ w19 ⟨rfl, b19⟩
   exact ⟨_, rfl, rfl, h.x.trans b19⟩
end Go.Proofs.YtjcnjlaelhdjeaaGreatDoor
namespace Go.Proofs.YtjcnjlaelhdjeaaGreatDoor
open Go Go.Vc Go.RowKit Go.Proofs Go.Lin Go.Chk Go.Runs Go.Code
set_option linter.unusedVariables false
def St (M : Sm) (sh : Nat) (F : Nat → Prop) (u : World) : Prop := ∃ (g s o t : Nat) (F0 : Nat → Prop), EF F0 u g s o t M occ0 noL ∧ SHE u sh g ∧ ¬ F0 sh ∧ F = fun i => F0 i ∨ i = sh
theorem St.lt {M : Sm} {sh : Nat} {F : Nat → Prop} {u : World} (h : St M sh F u) : ∀ i, F i → i < u.heap.size := by
 obtain ⟨g, s, o, t, F0, hE, hS, hn, rfl⟩ := h
 rintro i (hi | rfl)
 ·exact hE.lt hi
 ·exact hS.row.lt
theorem St.same {M : Sm} {sh : Nat} {F : Nat → Prop} {u u' : World} (h : St M sh F u) (hk : ∀ i, F i → u'.heap[i]? = u.heap[i]?) : St M sh F u' := by
 obtain ⟨g, s, o, t, F0, hE, hS, hn, rfl⟩ := h
 exact ⟨g, s, o, t, F0, hE.same fun i hi => hk i (.inl hi), ⟨hS.row.same (hk sh (.inr rfl))⟩, hn, rfl⟩
theorem St.of_SH {w u : World} {F0 F : Nat → Prop} {sh g s o t : Nat} {M : Sm} (h : SH w F0 u sh g s o t M occ0 noL F) : St M sh (fun i => F i ∨ i = sh) u ∧ Mod (fun i => F0 i ∨ i = sh) w u ∧ ∀ i, (F i ∨ i = sh) → (F0 i ∨ i = sh) ∨ w.heap.size ≤ i :=
 ⟨⟨g, s, o, t, F, h.e, h.r, h.n, rfl⟩, h.m.mono fun i _ hi => .inl hi, fun i hi => hi.elim (fun q => (h.f i q).imp .inl id) (fun q => .inl (.inr q))⟩
theorem ld_new (seed limit room : Int) {l : List En} (hl : (l.length : Int) < limit) {p : Po} (hp : inT p) (hn : ∀ e ∈ l, e.1 ≠ p) : ldE seed limit (dk0 room) l p = ((dk0 room, l ++ [(p, made seed p, false, 0)]), 0) := by
 have hr : roomE limit (dk0 room) l = ((dk0 room, l), 0) := by unfold roomE; rw [if_pos hl]
 have hd : (ldS (dk0 room) (idK p)).1 = [] := by unfold dk0; rw [ldS_new]
 have hf : firstI (fun e : En => e.1 == p) l = -1 := firstI_none fun y hy => by simpa using hn y hy
 unfold ldE
 rw [if_neg (by simpa using hp), if_neg (by rw [hf]; decide), hr, if_neg (by simp)]
 simp only [hd, cellsB_nil]
abbrev M1r : Sm := { M0e 1 9 200000 16 with T := (ldE 1 (M0e 1 9 200000 16).cap (M0e 1 9 200000 16).T.1 (M0e 1 9 200000 16).T.2 (0, 0)).1 }
theorem ld00' : ldE 1 9 (dk0 200000) [] (0, 0) = ((dk0 200000, [((0, 0), made 1 (0, 0), false, 0)]), 0) := ld_new 1 9 200000 (l := []) (by decide) (by decide) (by simp)
theorem ok0 : okC (0, 0, 0) := by unfold okC inI; simp
theorem at_base1 (seed : Int) (M : List Int) (hM : M = made seed (0, 0)) : atE [(((0, 0), M, false, 0) : En)] (0, 0, 0) = 1 := by
 have h0 : M[0]? = some 1 := by
  rw [hM, made_get seed (0, 0) (by decide)]
  unfold ofG
  rw [if_neg (by decide), if_pos (.inl (by decide))]
 show kAt (0, 0) M (0, 0, 0) = 1
 have hk : inK (0, 0) (0, 0, 0) = true := by decide
 unfold kAt
 rw [hk, if_pos rfl]
 show atC M 0 = 1
 unfold atC
 rw [if_neg (by decide), List.getD_eq_getElem?_getD]
 show (M[0]?).getD (-1) = 1
 rw [h0]; rfl
theorem ld00 : (ldE 1 (M0e 1 9 200000 16).cap (M0e 1 9 200000 16).T.1 (M0e 1 9 200000 16).T.2 (0, 0)).2 = 0 := by
 have e : (M0e 1 9 200000 16).cap = 9 := by decide
 rw [e]
 show (ldE 1 9 (dk0 200000) [] (0, 0)).2 = 0
 rw [ld00']
theorem at00 : atE M1r.T.2 (0, 0, 0) = 1 := by
 have e : (M0e 1 9 200000 16).cap = 9 := by decide
 show atE (ldE 1 (M0e 1 9 200000 16).cap (dk0 200000) [] (0, 0)).1.2 (0, 0, 0) = 1
 rw [e, ld00']
 exact at_base1 1 _ rfl
def out0 : ByteArray := ByteArray.mk #[111, 107, 10, 115, 116, 111, 110, 101, 10]
def T0 (p : Nat) : ByteArray := if p = 0 then ByteArray.mk #[111, 107] else cellT 1
theorem t1_stone : cellT 1 = ByteArray.mk #[115, 116, 111, 110, 101] := by kernel_rfl
theorem out_lives : outL [line1, line2] T0 2 = bl out0 := by
 have h0 : toldL [line1, line2] 0 := ⟨by decide, line1, rfl, by rw [words1]; exact List.cons_ne_nil _ _⟩
 have h1 : toldL [line1, line2] 1 := ⟨by decide, line2, rfl, by rw [words2]; exact List.cons_ne_nil _ _⟩
 rw [outL_yes h1, outL_yes h0]
 show [] ++ (bl (ByteArray.mk #[111, 107]) ++ [10]) ++ (bl (cellT 1) ++ [10]) = _
 rw [t1_stone]
 rfl
theorem run0_spec {w : World} {m : Int} (hm : w.cell? ⟨0, 0, none⟩ = some (.int .i64 m)) : Calls Tryz.prog n_lines_Run #[.string script0] w fun e w' => e = .returned (.string out0) ∧ Ext w w' := by
 refine (Run_spec hm script0 (by decide) [line1, line2] (by rw [split0.1]; exact split0.2) (by rw [split0.1]; rfl) (fun l hl => ?_) (by decide) T0 (fun sh p F u => if p = 0 then St (M0e 1 9 200000 16) sh F u else if p = 1 then St M1r sh F u else ∀ i, F i → i < u.heap.size) ?_ ?_ ?_ ?_ ?_).mono ?_
 ·simp at hl
  rcases hl with rfl | rfl <;> decide
 ·intro sh p F u h
  split at h
  ·exact h.lt
  ·split at h
   ·exact h.lt
   ·exact h
 ·intro sh p F u u' h hk
  split
  ·rename_i q
   rw [if_pos q] at h
   exact h.same hk
  ·rename_i q
   rw [if_neg q] at h
   split
   ·rename_i q1
    rw [if_pos q1] at h
    exact h.same hk
   ·rename_i q1
    rw [if_neg q1] at h
    intro i hi
    have := hk i hi
    have hl := h i hi
    by_cases c : i < u'.heap.size
    ·exact c
    ·rw [Array.getElem?_eq_none (by omega), Array.getElem?_eq_getElem hl] at this
     cases this
 ·intro u sh g s o t F h hS hn
  exact ⟨fun i => F i ∨ i = sh, ⟨g, s, o, t, F, h, hS, hn, rfl⟩, fun i hi => hi⟩
 ·intro sh p F u h hno
  have h0 : toldL [line1, line2] 0 := ⟨by decide, line1, rfl, by rw [words1]; exact List.cons_ne_nil _ _⟩
  have h1 : toldL [line1, line2] 1 := ⟨by decide, line2, rfl, by rw [words2]; exact List.cons_ne_nil _ _⟩
  have p0 : p ≠ 0 := fun q => hno (q ▸ h0)
  have p1 : p ≠ 1 := fun q => hno (q ▸ h1)
  simp only [if_neg p0, if_neg p1] at h
  simp only [if_neg (show p + 1 ≠ 0 by omega), if_neg (show p + 1 ≠ 1 by omega)]
  exact h
 ·intro sh p F u line h hl hp hw
  have : p = 0 ∨ p = 1 := by
   have := (List.getElem?_eq_some_iff.1 hl).1
   simp at this
   omega
  rcases this with rfl | rfl
  ·simp only [if_true] at h
   obtain ⟨g, s, o, t, F0, hE, hS, hn, rfl⟩ := h
   cases hl
   refine (Line_load hE hS hn (by decide) line1 (by decide) _ words1 (0, 0) pos0 ld00).mono ?_
   rintro e u' ⟨tx, rfl, rfl, F', hSH, -⟩
   obtain ⟨q1, q2, q3⟩ := St.of_SH hSH
   exact ⟨rfl, by decide, _, q1, q2, q3⟩
  ·simp only [if_neg (show (1 : Nat) ≠ 0 by decide), if_true] at h
   obtain ⟨g, s, o, t, F0, hE, hS, hn, rfl⟩ := h
   cases hl
   refine (Line_at hE hS hn name_size line2 (by decide) _ words2 (0, 0, 0) vec0 ok0).mono ?_
   rintro e u' ⟨tx, he, htx, hSH⟩
   rw [at00] at htx
   rw [htx] at he
   obtain ⟨q1, q2, q3⟩ := St.of_SH hSH
   exact ⟨he, by rw [show T0 1 = cellT 1 from rfl, t1_stone]; decide, fun i => F0 i ∨ i = sh, by simp only [if_neg (show (1 + 1 : Nat) ≠ 0 by decide), if_neg (show (1 + 1 : Nat) ≠ 1 by decide)]; exact q1.lt, q2, q3⟩
 ·rintro e w' ⟨rfl, x⟩
  refine ⟨?_, x⟩
  show Ending.returned (.string ⟨(outL [line1, line2] T0 2).toArray⟩) = _
  rw [out_lives]
theorem lives22_spec {w : World} {m : Int} (hm : w.cell? ⟨0, 0, none⟩ = some (.int .i64 m)) : Calls Tryz.prog n_law22_lives #[] w fun e w' => e = .returned (.bool true) ∧ Ext w w' := by
 apply law22_lives.vc
 unfold law22_lives.pre
 refine (run0_spec hm).mono ?_
 rintro _ w0 ⟨rfl, x0⟩
 exact ⟨_, rfl, by kernel_rfl, x0⟩
end Go.Proofs.YtjcnjlaelhdjeaaGreatDoor
namespace Go.Proofs.YtjcnjlaelhdjeaaGreatDoor
open Go Go.Vc Go.RowKit Go.Proofs
set_option maxRecDepth 100000
set_option maxHeartbeats 8000000
set_option linter.unusedVariables false
abbrev n_vec_all : FuncId := 215
abbrev n_vec_Overlap_1 : FuncId := 216
abbrev n_vec_Overlap : FuncId := 148
def vec_all.pre (a0 : Value) (w : World) (R : Ending → World → Prop) : Prop :=
 ∃ I0 : Nat → Int → World → Prop,
 (∃ n1, I0 n1 (0) w) ∧
 ∀ (n1 : Nat) (us2 : Nat → Value) (x3 : Int) (w4 : World), I0 n1 x3 w4 →
 Br (decide ((x3 : Int) < 3))
 (callV Tryz.prog a0 [.int .i64 x3] w4 (fun e w6 => ∃ (b7 : Bool), e = .returned (.bool b7) ∧
 Br (!b7)
 (R (.returned (.bool false)) w6)
 (∃ n5, n5 < n1 ∧ I0 n5 ((IntKind.wrap .i64 (x3 + 1))) w6)))
 (R (.returned (.bool true)) w4)
theorem vec_all.vc {a0 w} {R : Ending → World → Prop} (h : vec_all.pre a0 w R) : Calls Tryz.prog n_vec_all #[a0] w R :=
 calls_of_eq (an := ⟨[(2, ⟨[(4, .int .i64)], [], []⟩)], [], []⟩) (args := [a0]) Tryz.noNG Tryz.mixed Tryz.func215 h (by kernel_rfl)
def vec_Overlap_1.pre (a0 : Int) (c0 : Addr) (c1 : Addr) (w : World) (R : Ending → World → Prop) : Prop :=
 ∃ (x0 : Int) (x1 : Int) (x2 : Int), LoadL w.drew (padd (some c0) 0) 0 [.int .i64 x0, .int .i64 x1, .int .i64 x2] ∧
 ∃ (x3 : Int) (x4 : Int) (x5 : Int), LoadL w.drew (padd (some c1) 3) 0 [.int .i64 x3, .int .i64 x4, .int .i64 x5] ∧
 Calls Tryz.prog 210 #[.agg #[.int .i64 x0, .int .i64 x1, .int .i64 x2], .int .i64 a0] w.drew (fun e w6 => ∃ (x7 : Int), e = .returned (.int .i64 x7) ∧
 LoadL w6 (padd (some c1) 3) 0 [.int .i64 x3, .int .i64 x4, .int .i64 x5] ∧ Calls Tryz.prog 210 #[.agg #[.int .i64 x3, .int .i64 x4, .int .i64 x5], .int .i64 a0] w6 (fun e w8 => ∃ (x9 : Int), e = .returned (.int .i64 x9) ∧
 Br (decide ((x7 : Int) < x9))
 (∃ (x10 : Int) (x11 : Int) (x12 : Int), LoadL w8 (padd (some c1) 0) 0 [.int .i64 x10, .int .i64 x11, .int .i64 x12] ∧
 ∃ (x13 : Int) (x14 : Int) (x15 : Int), LoadL w8 (padd (some c0) 3) 0 [.int .i64 x13, .int .i64 x14, .int .i64 x15] ∧
 Calls Tryz.prog 210 #[.agg #[.int .i64 x10, .int .i64 x11, .int .i64 x12], .int .i64 a0] w8 (fun e w16 => ∃ (x17 : Int), e = .returned (.int .i64 x17) ∧
 LoadL w16 (padd (some c0) 3) 0 [.int .i64 x13, .int .i64 x14, .int .i64 x15] ∧ Calls Tryz.prog 210 #[.agg #[.int .i64 x13, .int .i64 x14, .int .i64 x15], .int .i64 a0] w16 (fun e w18 => ∃ (x19 : Int), e = .returned (.int .i64 x19) ∧
 R (.returned (.bool (decide ((x17 : Int) < x19)))) w18)))
 (R (.returned (.bool false)) w8)))
theorem vec_Overlap_1.vc {a0 c0 c1 w} {R : Ending → World → Prop} (h : vec_Overlap_1.pre a0 c0 c1 w R) : Calls Tryz.prog n_vec_Overlap_1 #[.int .i64 a0, .pointer (some c0), .pointer (some c1)] w R :=
 calls_of_eq (an := ⟨[], [], []⟩) (args := [.int .i64 a0, .pointer (some c0), .pointer (some c1)]) Tryz.noNG Tryz.mixed Tryz.func216 h (by kernel_rfl)
def vec_Overlap.pre (a0_0 : Int) (a0_1 : Int) (a0_2 : Int) (a0_3 : Int) (a0_4 : Int) (a0_5 : Int) (a1_0 : Int) (a1_1 : Int) (a1_2 : Int) (a1_3 : Int) (a1_4 : Int) (a1_5 : Int) (w : World) (R : Ending → World → Prop) : Prop :=
 ∀ w0 : World, w0 = w.alloc (.cells #[.int .i64 a0_0, .int .i64 a0_1, .int .i64 a0_2, .int .i64 a0_3, .int .i64 a0_4, .int .i64 a0_5] 202) →
 ∀ w1 : World, w1 = w0.alloc (.cells #[.int .i64 a1_0, .int .i64 a1_1, .int .i64 a1_2, .int .i64 a1_3, .int .i64 a1_4, .int .i64 a1_5] 202) →
 Calls Tryz.prog n_vec_all #[.func (.func 216) #[] #[.pointer (some ⟨w.heap.size, 0, none⟩), .pointer (some ⟨w0.heap.size, 0, none⟩)]] w1 (fun e w2 => ∃ (b3 : Bool), e = .returned (.bool b3) ∧
 R (.returned (.bool b3)) w2)
theorem vec_Overlap.vc {a0_0 a0_1 a0_2 a0_3 a0_4 a0_5 a1_0 a1_1 a1_2 a1_3 a1_4 a1_5 w} {R : Ending → World → Prop} (h : vec_Overlap.pre a0_0 a0_1 a0_2 a0_3 a0_4 a0_5 a1_0 a1_1 a1_2 a1_3 a1_4 a1_5 w R) : Calls Tryz.prog n_vec_Overlap #[.agg #[.int .i64 a0_0, .int .i64 a0_1, .int .i64 a0_2, .int .i64 a0_3, .int .i64 a0_4, .int .i64 a0_5], .agg #[.int .i64 a1_0, .int .i64 a1_1, .int .i64 a1_2, .int .i64 a1_3, .int .i64 a1_4, .int .i64 a1_5]] w R :=
 calls_of_eq (an := ⟨[], [], []⟩) (args := [.agg #[.int .i64 a0_0, .int .i64 a0_1, .int .i64 a0_2, .int .i64 a0_3, .int .i64 a0_4, .int .i64 a0_5], .agg #[.int .i64 a1_0, .int .i64 a1_1, .int .i64 a1_2, .int .i64 a1_3, .int .i64 a1_4, .int .i64 a1_5]]) Tryz.noNG Tryz.mixed Tryz.func148 h (by kernel_rfl)
end Go.Proofs.YtjcnjlaelhdjeaaGreatDoor
namespace Go.Proofs.YtjcnjlaelhdjeaaGreatDoor
open Go Go.Vc Go.RowKit Go.Proofs Go.Chk Go.Runs Go.Code Go.Que Go.Flw Go.Eng
set_option maxRecDepth 100000
theorem zA {w v : World} {o : Obj} (e : v = w.alloc o) : v.heap.size = w.heap.size + 1 := by rw [e]; simp
theorem zR {w v : World} {g : Nat} {c : Array Value} (e : v = w.setRow g c) : v.heap.size = w.heap.size := by rw [e]; simp
end Go.Proofs.YtjcnjlaelhdjeaaGreatDoor
namespace Go.Proofs.YtjcnjlaelhdjeaaGreatDoor
open Go Go.Vc Go.RowKit Go.Proofs Go.Chk Go.Runs Go.Code Go.Que Go.Flw Go.Eng
set_option maxRecDepth 100000
end Go.Proofs.YtjcnjlaelhdjeaaGreatDoor
namespace Go.Proofs.YtjcnjlaelhdjeaaGreatDoor
open Go Go.Vc Go.RowKit Go.Proofs Go.Chk Go.Runs Go.Code Go.Que Go.Flw Go.Eng
set_option maxRecDepth 100000
end Go.Proofs.YtjcnjlaelhdjeaaGreatDoor
namespace Go.Proofs.YtjcnjlaelhdjeaaGreatDoor
open Go Go.Vc Go.RowKit Go.Proofs Go.Chk Go.Runs Go.Code Go.Que Go.Flw Go.Eng
set_option maxRecDepth 100000
end Go.Proofs.YtjcnjlaelhdjeaaGreatDoor
namespace Go.Proofs.YtjcnjlaelhdjeaaGreatDoor
open Go Go.Vc Go.RowKit Go.Proofs Go.Chk Go.Runs Go.Code Go.Que Go.Flw Go.Eng
set_option maxRecDepth 100000
end Go.Proofs.YtjcnjlaelhdjeaaGreatDoor
namespace Go.Proofs.YtjcnjlaelhdjeaaGreatDoor
open Go Go.Vc Go.RowKit Go.Proofs Go.Chk Go.Runs Go.Code Go.Que Go.Flw Go.Eng
set_option maxRecDepth 100000
end Go.Proofs.YtjcnjlaelhdjeaaGreatDoor
namespace Go.Proofs.YtjcnjlaelhdjeaaGreatDoor
open Go Go.Vc Go.RowKit Go.Proofs Go.Chk Go.Runs Go.Code Go.Que Go.Flw Go.Eng
set_option maxRecDepth 100000
end Go.Proofs.YtjcnjlaelhdjeaaGreatDoor
namespace Go.Proofs.YtjcnjlaelhdjeaaGreatDoor
open Go Go.Vc Go.RowKit Go.Proofs Go.Chk Go.Runs Go.Code Go.Que Go.Flw Go.Eng
set_option maxRecDepth 100000
def ovK (a b : Bx) (i : Int) : Bool := decide (axK a.1 i < axK b.2 i) && decide (axK b.1 i < axK a.2 i)
def overlapK (a b : Bx) : Bool := ovK a b 0 && ovK a b 1 && ovK a b 2
theorem Overlap1_spec (a b : Bx) (i : Int) {ga gb : Nat} {w : World} (ha : Row w ga (bxL a) tBox) (hb : Row w gb (bxL b) tBox) :
  Calls Tryz.prog n_vec_Overlap_1 #[.int .i64 i, .pointer (some ⟨ga, 0, none⟩), .pointer (some ⟨gb, 0, none⟩)] w fun e w' => e = .returned (.bool (ovK a b i)) ∧ Ext w w' := by
 apply vec_Overlap_1.vc
 have xd := Ext.dr w
 refine ⟨_, _, _, ld3 (o := 0) (ha.ext xd) rfl rfl rfl, _, _, _, ld3 (o := 3) (hb.ext xd) rfl rfl rfl, (Axis_spec a.1 i w.drew).mono ?_⟩
 rintro e w6 ⟨rfl, x6⟩
 have y6 := xd.tr x6
 refine ⟨_, rfl, ld3 (o := 3) (hb.ext y6) rfl rfl rfl, (Axis_spec b.2 i w6).mono ?_⟩
 rintro e w8 ⟨rfl, x8⟩
 have y8 := y6.tr x8
 unfold ovK
 refine ⟨_, rfl, Br.mk (fun hc => ⟨_, _, _, ld3 (o := 0) (hb.ext y8) rfl rfl rfl, _, _, _, ld3 (o := 3) (ha.ext y8) rfl rfl rfl, (Axis_spec b.1 i w8).mono ?_⟩) (fun hc => ⟨by rw [hc, Bool.false_and], y8⟩)⟩
 rintro e w16 ⟨rfl, x16⟩
 have y16 := y8.tr x16
 refine ⟨_, rfl, ld3 (o := 3) (ha.ext y16) rfl rfl rfl, (Axis_spec a.2 i w16).mono ?_⟩
 rintro e w18 ⟨rfl, x18⟩
 exact ⟨_, rfl, by rw [hc, Bool.true_and], y16.tr x18⟩
theorem all_spec (f : Int → Bool) (fv : Value) (w : World) (hf : ∀ w', Ext w w' → ∀ i : Int, callV Tryz.prog fv [.int .i64 i] w' fun e w'' => e = .returned (.bool (f i)) ∧ Ext w' w'') :
  Calls Tryz.prog n_vec_all #[fv] w fun e w' => e = .returned (.bool (f 0 && f 1 && f 2)) ∧ Ext w w' := by
 apply vec_all.vc
 refine ⟨fun n x wr => ∃ k : Nat, x = k ∧ k + n = 3 ∧ (∀ j : Nat, j < k → f j = true) ∧ Ext w wr, ⟨3, 0, rfl, rfl, fun j hj => absurd hj (by omega), Ext.rfl' _⟩, ?_⟩
 rintro n us x wr ⟨k, rfl, hk, hj, xr⟩
 refine Br.mk (fun hc => ?_) (fun hc => ?_)
 ·have hc : (k : Int) < 3 := by simpa using hc
  refine callV_mono (hf wr xr k) ?_
  rintro e w6 ⟨rfl, x6⟩
  have wk : IntKind.wrap .i64 ((k : Int) + 1) = ((k + 1 : Nat) : Int) := by rw [wrap_in (by unfold inI; omega)]; omega
  refine ⟨_, rfl, Br.mk (fun hq => ⟨?_, xr.tr x6⟩) (fun hq => ⟨n - 1, by omega, k + 1, wk, by omega, fun j hjk => ?_, xr.tr x6⟩)⟩
  ·have hq : f k = false := by simpa using hq
   have hk3 : k = 0 ∨ k = 1 ∨ k = 2 := by omega
   have : (f 0 && f 1 && f 2) = false := by
    rcases hk3 with rfl | rfl | rfl
    ·rw [show f 0 = false from hq]; rfl
    ·rw [show f 1 = false from hq, Bool.and_false]; rfl
    ·rw [show f 2 = false from hq, Bool.and_false]
   rw [this]
  ·have hq : f k = true := by simpa using hq
   by_cases he : j = k
   ·rw [he]; exact hq
   ·exact hj j (by omega)
 ·have hc : ¬ (k : Int) < 3 := by simpa using hc
  refine ⟨?_, xr⟩
  rw [show f 0 = true from hj 0 (by omega), show f 1 = true from hj 1 (by omega), show f 2 = true from hj 2 (by omega)]; rfl
theorem Overlap_spec (a b : Bx) (w : World) : Calls Tryz.prog n_vec_Overlap #[bxv a, bxv b] w fun e w' => e = .returned (.bool (overlapK a b)) ∧ Ext w w' := by
 apply vec_Overlap.vc
 intro w0 e0 w1 e1
 have x0 : Ext w w0 := (Ext.rfl' _).of_alloc e0
 have r0 : Row w0 w.heap.size (bxL a) tBox := by rw [e0]; exact Row.new w [_, _, _, _, _, _] _
 have x1 : Ext w0 w1 := (Ext.rfl' _).of_alloc e1
 have r1 : Row w1 w0.heap.size (bxL b) tBox := by rw [e1]; exact Row.new w0 [_, _, _, _, _, _] _
 have z0 := zA e0
 have z1 := zA e1
 clear e0 e1
 refine (all_spec (ovK a b) (.func (.func 216) #[] #[.pointer (some ⟨w.heap.size, 0, none⟩), .pointer (some ⟨w0.heap.size, 0, none⟩)]) w1 fun w' x' i => callV_of (by kernel_rfl) rfl (Overlap1_spec a b i (r0.ext (x1.tr x')) (r1.ext x'))).mono ?_
 rintro e w2 ⟨rfl, x2⟩
 have z2 := x2.size
 first
  | exact ⟨_, rfl, rfl, x0.tr (x1.tr x2)⟩
  | exact ⟨_, rfl, x2.heap (by omega), x2.heap (by omega), rfl, x0.tr (x1.tr x2)⟩
end Go.Proofs.YtjcnjlaelhdjeaaGreatDoor
namespace Go.Proofs.YtjcnjlaelhdjeaaGreatDoor
open Go Go.Vc Go.RowKit Go.Proofs Go.Chk Go.Runs Go.Code Go.Que Go.Flw Go.Eng
set_option maxRecDepth 100000
end Go.Proofs.YtjcnjlaelhdjeaaGreatDoor
namespace Go.Proofs.YtjcnjlaelhdjeaaGreatDoor
open Go Go.Vc Go.RowKit Go.Proofs Go.Chk Go.Runs Go.Code Go.Que Go.Flw Go.Eng
set_option maxRecDepth 100000
def okB (m : Int) (b : Bdy) : Prop := nearV b.foot m ∧ (0 ≤ b.wd ∧ b.wd ≤ 1000000) ∧ (0 ≤ b.ht ∧ b.ht ≤ 1000000) ∧ -1000000 ≤ b.speed.2.1 ∧ b.speed.2.1 ≤ 1000000
theorem okB.wdi {b : Bdy} {m : Int} (h : okB m b) : inI b.wd := by unfold inI; have := h.2.1; omega
end Go.Proofs.YtjcnjlaelhdjeaaGreatDoor
namespace Go.Proofs.YtjcnjlaelhdjeaaGreatDoor
open Go Go.Vc Go.RowKit Go.Proofs
set_option maxRecDepth 100000
set_option maxHeartbeats 8000000
set_option linter.unusedVariables false
abbrev n_cell_Box : FuncId := 145
abbrev n_engine_Engine_Held_1 : FuncId := 147
abbrev n_slices_ContainsFunc_life : FuncId := 146
abbrev n_engine_Engine_Held : FuncId := 84
abbrev n_engine_Engine_Edit : FuncId := 126
abbrev n_engine_Engine_Body : FuncId := 47
def cell_Box.pre (a0_0 : Int) (a0_1 : Int) (a0_2 : Int) (w : World) (R : Ending → World → Prop) : Prop :=
 ∀ w0 : World, w0 = w.alloc (.cells #[.int .i64 a0_0, .int .i64 a0_1, .int .i64 a0_2] 23) →
 ∀ w1 : World, w1 = w0.alloc (.cells #[.int .i64 0, .int .i64 0, .int .i64 0, .int .i64 0, .int .i64 0, .int .i64 0] 202) →
 (Calls Tryz.prog 213 #[.int .i64 a0_0] w1.drew (fun e w2 => ∃ (x3 : Int), e = .returned (.int .i64 x3) ∧ w2.heap[w.heap.size]? = w1.drew.heap[w.heap.size]? ∧ w2.heap[w0.heap.size]? = w1.drew.heap[w0.heap.size]? ∧
 LoadL w2 (some ⟨w.heap.size, 2, none⟩) 0 [.int .i64 a0_2] ∧ LoadL w2 (some ⟨w.heap.size, 1, none⟩) 0 [.int .i64 a0_1] ∧ (Calls Tryz.prog 213 #[.int .i64 a0_1] w2 (fun e w4 => ∃ (x5 : Int), e = .returned (.int .i64 x5) ∧ w4.heap[w.heap.size]? = w2.heap[w.heap.size]? ∧ w4.heap[w0.heap.size]? = w2.heap[w0.heap.size]? ∧
 LoadL w4 (some ⟨w.heap.size, 2, none⟩) 0 [.int .i64 a0_2] ∧ (Calls Tryz.prog 213 #[.int .i64 a0_2] w4 (fun e w6 => ∃ (x7 : Int), e = .returned (.int .i64 x7) ∧ w6.heap[w.heap.size]? = w4.heap[w.heap.size]? ∧ w6.heap[w0.heap.size]? = w4.heap[w0.heap.size]? ∧
 (∀ w8 : World, w8 = w6.alloc (.cells #[.int .i64 0, .int .i64 0, .int .i64 0] 73) →
 ∀ w9 : World, w9 = w8.setRow w6.heap.size #[.int .i64 x3, .int .i64 x5, .int .i64 x7] →
 Calls Tryz.prog 206 #[.agg #[.int .i64 x3, .int .i64 x5, .int .i64 x7], .agg #[.int .i64 65536, .int .i64 65536, .int .i64 65536]] w9.drew (fun e w10 => ∃ (x11 : Int) (x12 : Int) (x13 : Int), e = .returned (.agg #[.int .i64 x11, .int .i64 x12, .int .i64 x13]) ∧ w10.heap[w.heap.size]? = w9.drew.heap[w.heap.size]? ∧ w10.heap[w0.heap.size]? = w9.drew.heap[w0.heap.size]? ∧ w10.heap[w6.heap.size]? = w9.drew.heap[w6.heap.size]? ∧
 LoadL w10 (some ⟨w6.heap.size, 0, none⟩) 0 [.int .i64 x3, .int .i64 x5, .int .i64 x7] ∧ ∀ w14 : World, w14 = w10.setRow w0.heap.size #[.int .i64 x3, .int .i64 x5, .int .i64 x7, .int .i64 x11, .int .i64 x12, .int .i64 x13] →
 R (.returned (.agg #[.int .i64 x3, .int .i64 x5, .int .i64 x7, .int .i64 x11, .int .i64 x12, .int .i64 x13])) w14)) ∧ (∀ w15 : World, w15 = w6.alloc (.cells #[.int .i64 0, .int .i64 0, .int .i64 0] 73) →
 ∀ w16 : World, w16 = w15.setRow w6.heap.size #[.int .i64 x3, .int .i64 x5, .int .i64 x7] →
 Calls Tryz.prog 206 #[.agg #[.int .i64 x3, .int .i64 x5, .int .i64 x7], .agg #[.int .i64 65536, .int .i64 65536, .int .i64 65536]] w16.drew (fun e w17 => ∃ (x18 : Int) (x19 : Int) (x20 : Int), e = .returned (.agg #[.int .i64 x18, .int .i64 x19, .int .i64 x20]) ∧ w17.heap[w.heap.size]? = w16.drew.heap[w.heap.size]? ∧ w17.heap[w0.heap.size]? = w16.drew.heap[w0.heap.size]? ∧ w17.heap[w6.heap.size]? = w16.drew.heap[w6.heap.size]? ∧
 LoadL w17 (some ⟨w6.heap.size, 0, none⟩) 0 [.int .i64 x3, .int .i64 x5, .int .i64 x7] ∧ ∀ w21 : World, w21 = w17.setRow w0.heap.size #[.int .i64 x3, .int .i64 x5, .int .i64 x7, .int .i64 x18, .int .i64 x19, .int .i64 x20] →
 R (.returned (.agg #[.int .i64 x3, .int .i64 x5, .int .i64 x7, .int .i64 x18, .int .i64 x19, .int .i64 x20])) w21)))) ∧ (∀ w22 : World, w22 = w4.alloc (.cells #[.int .i64 0, .int .i64 0, .int .i64 0] 73) →
 Calls Tryz.prog 213 #[.int .i64 a0_2] w22 (fun e w23 => ∃ (x24 : Int), e = .returned (.int .i64 x24) ∧ w23.heap[w.heap.size]? = w22.heap[w.heap.size]? ∧ w23.heap[w0.heap.size]? = w22.heap[w0.heap.size]? ∧ w23.heap[w4.heap.size]? = w22.heap[w4.heap.size]? ∧
 ∀ w25 : World, w25 = w23.setRow w4.heap.size #[.int .i64 x3, .int .i64 x5, .int .i64 x24] →
 Calls Tryz.prog 206 #[.agg #[.int .i64 x3, .int .i64 x5, .int .i64 x24], .agg #[.int .i64 65536, .int .i64 65536, .int .i64 65536]] w25.drew (fun e w26 => ∃ (x27 : Int) (x28 : Int) (x29 : Int), e = .returned (.agg #[.int .i64 x27, .int .i64 x28, .int .i64 x29]) ∧ w26.heap[w.heap.size]? = w25.drew.heap[w.heap.size]? ∧ w26.heap[w0.heap.size]? = w25.drew.heap[w0.heap.size]? ∧ w26.heap[w4.heap.size]? = w25.drew.heap[w4.heap.size]? ∧
 LoadL w26 (some ⟨w4.heap.size, 0, none⟩) 0 [.int .i64 x3, .int .i64 x5, .int .i64 x24] ∧ ∀ w30 : World, w30 = w26.setRow w0.heap.size #[.int .i64 x3, .int .i64 x5, .int .i64 x24, .int .i64 x27, .int .i64 x28, .int .i64 x29] →
 R (.returned (.agg #[.int .i64 x3, .int .i64 x5, .int .i64 x24, .int .i64 x27, .int .i64 x28, .int .i64 x29])) w30))))) ∧ (∀ w31 : World, w31 = w2.alloc (.cells #[.int .i64 0, .int .i64 0, .int .i64 0] 73) →
 Calls Tryz.prog 213 #[.int .i64 a0_1] w31 (fun e w32 => ∃ (x33 : Int), e = .returned (.int .i64 x33) ∧ w32.heap[w.heap.size]? = w31.heap[w.heap.size]? ∧ w32.heap[w0.heap.size]? = w31.heap[w0.heap.size]? ∧ w32.heap[w2.heap.size]? = w31.heap[w2.heap.size]? ∧
 LoadL w32 (some ⟨w.heap.size, 2, none⟩) 0 [.int .i64 a0_2] ∧ Calls Tryz.prog 213 #[.int .i64 a0_2] w32 (fun e w34 => ∃ (x35 : Int), e = .returned (.int .i64 x35) ∧ w34.heap[w.heap.size]? = w32.heap[w.heap.size]? ∧ w34.heap[w0.heap.size]? = w32.heap[w0.heap.size]? ∧ w34.heap[w2.heap.size]? = w32.heap[w2.heap.size]? ∧
 ∀ w36 : World, w36 = w34.setRow w2.heap.size #[.int .i64 x3, .int .i64 x33, .int .i64 x35] →
 Calls Tryz.prog 206 #[.agg #[.int .i64 x3, .int .i64 x33, .int .i64 x35], .agg #[.int .i64 65536, .int .i64 65536, .int .i64 65536]] w36.drew (fun e w37 => ∃ (x38 : Int) (x39 : Int) (x40 : Int), e = .returned (.agg #[.int .i64 x38, .int .i64 x39, .int .i64 x40]) ∧ w37.heap[w.heap.size]? = w36.drew.heap[w.heap.size]? ∧ w37.heap[w0.heap.size]? = w36.drew.heap[w0.heap.size]? ∧ w37.heap[w2.heap.size]? = w36.drew.heap[w2.heap.size]? ∧
 LoadL w37 (some ⟨w2.heap.size, 0, none⟩) 0 [.int .i64 x3, .int .i64 x33, .int .i64 x35] ∧ ∀ w41 : World, w41 = w37.setRow w0.heap.size #[.int .i64 x3, .int .i64 x33, .int .i64 x35, .int .i64 x38, .int .i64 x39, .int .i64 x40] →
 R (.returned (.agg #[.int .i64 x3, .int .i64 x33, .int .i64 x35, .int .i64 x38, .int .i64 x39, .int .i64 x40])) w41)))))) ∧ (∀ w42 : World, w42 = w1.drew.alloc (.cells #[.int .i64 0, .int .i64 0, .int .i64 0] 73) →
 Calls Tryz.prog 213 #[.int .i64 a0_0] w42 (fun e w43 => ∃ (x44 : Int), e = .returned (.int .i64 x44) ∧ w43.heap[w.heap.size]? = w42.heap[w.heap.size]? ∧ w43.heap[w0.heap.size]? = w42.heap[w0.heap.size]? ∧ w43.heap[w1.drew.heap.size]? = w42.heap[w1.drew.heap.size]? ∧
 LoadL w43 (some ⟨w.heap.size, 2, none⟩) 0 [.int .i64 a0_2] ∧ LoadL w43 (some ⟨w.heap.size, 1, none⟩) 0 [.int .i64 a0_1] ∧ Calls Tryz.prog 213 #[.int .i64 a0_1] w43 (fun e w45 => ∃ (x46 : Int), e = .returned (.int .i64 x46) ∧ w45.heap[w.heap.size]? = w43.heap[w.heap.size]? ∧ w45.heap[w0.heap.size]? = w43.heap[w0.heap.size]? ∧ w45.heap[w1.drew.heap.size]? = w43.heap[w1.drew.heap.size]? ∧
 LoadL w45 (some ⟨w.heap.size, 2, none⟩) 0 [.int .i64 a0_2] ∧ Calls Tryz.prog 213 #[.int .i64 a0_2] w45 (fun e w47 => ∃ (x48 : Int), e = .returned (.int .i64 x48) ∧ w47.heap[w.heap.size]? = w45.heap[w.heap.size]? ∧ w47.heap[w0.heap.size]? = w45.heap[w0.heap.size]? ∧ w47.heap[w1.drew.heap.size]? = w45.heap[w1.drew.heap.size]? ∧
 ∀ w49 : World, w49 = w47.setRow w1.drew.heap.size #[.int .i64 x44, .int .i64 x46, .int .i64 x48] →
 Calls Tryz.prog 206 #[.agg #[.int .i64 x44, .int .i64 x46, .int .i64 x48], .agg #[.int .i64 65536, .int .i64 65536, .int .i64 65536]] w49.drew (fun e w50 => ∃ (x51 : Int) (x52 : Int) (x53 : Int), e = .returned (.agg #[.int .i64 x51, .int .i64 x52, .int .i64 x53]) ∧ w50.heap[w.heap.size]? = w49.drew.heap[w.heap.size]? ∧ w50.heap[w0.heap.size]? = w49.drew.heap[w0.heap.size]? ∧ w50.heap[w1.drew.heap.size]? = w49.drew.heap[w1.drew.heap.size]? ∧
 LoadL w50 (some ⟨w1.drew.heap.size, 0, none⟩) 0 [.int .i64 x44, .int .i64 x46, .int .i64 x48] ∧ ∀ w54 : World, w54 = w50.setRow w0.heap.size #[.int .i64 x44, .int .i64 x46, .int .i64 x48, .int .i64 x51, .int .i64 x52, .int .i64 x53] →
 R (.returned (.agg #[.int .i64 x44, .int .i64 x46, .int .i64 x48, .int .i64 x51, .int .i64 x52, .int .i64 x53])) w54)))))
theorem cell_Box.vc {a0_0 a0_1 a0_2 w} {R : Ending → World → Prop} (h : cell_Box.pre a0_0 a0_1 a0_2 w R) : Calls Tryz.prog n_cell_Box #[.agg #[.int .i64 a0_0, .int .i64 a0_1, .int .i64 a0_2]] w R :=
 calls_of_eq (an := ⟨[], [], []⟩) (args := [.agg #[.int .i64 a0_0, .int .i64 a0_1, .int .i64 a0_2]]) Tryz.noNG Tryz.mixed Tryz.func145 h (by kernel_rfl)
def engine_Engine_Held_1.pre (a0 : Addr) (c0 : Addr) (w : World) (R : Ending → World → Prop) : Prop :=
 ∃ (x0 : Int) (x1 : Int) (x2 : Int) (x3 : Int) (x4 : Int) (x5 : Int) (x6 : Int) (x7 : Int) (b8 : Bool), LoadL w.drew (padd (some a0) 0) 0 [.int .i64 x0, .int .i64 x1, .int .i64 x2, .int .i64 x3, .int .i64 x4, .int .i64 x5, .int .i64 x6, .int .i64 x7, .bool b8] ∧
 ∃ (x9 : Int) (x10 : Int) (x11 : Int) (x12 : Int) (x13 : Int) (x14 : Int), LoadL w.drew (some c0) 0 [.int .i64 x9, .int .i64 x10, .int .i64 x11, .int .i64 x12, .int .i64 x13, .int .i64 x14] ∧
 Calls Tryz.prog 149 #[.agg #[.int .i64 x0, .int .i64 x1, .int .i64 x2, .int .i64 x3, .int .i64 x4, .int .i64 x5, .int .i64 x6, .int .i64 x7, .bool b8]] w.drew (fun e w15 => ∃ (x16 : Int) (x17 : Int) (x18 : Int) (x19 : Int) (x20 : Int) (x21 : Int), e = .returned (.agg #[.int .i64 x16, .int .i64 x17, .int .i64 x18, .int .i64 x19, .int .i64 x20, .int .i64 x21]) ∧
 LoadL w15 (some c0) 0 [.int .i64 x9, .int .i64 x10, .int .i64 x11, .int .i64 x12, .int .i64 x13, .int .i64 x14] ∧ Calls Tryz.prog 148 #[.agg #[.int .i64 x16, .int .i64 x17, .int .i64 x18, .int .i64 x19, .int .i64 x20, .int .i64 x21], .agg #[.int .i64 x9, .int .i64 x10, .int .i64 x11, .int .i64 x12, .int .i64 x13, .int .i64 x14]] w15 (fun e w22 => ∃ (b23 : Bool), e = .returned (.bool b23) ∧
 R (.returned (.bool b23)) w22))
theorem engine_Engine_Held_1.vc {a0 c0 w} {R : Ending → World → Prop} (h : engine_Engine_Held_1.pre a0 c0 w R) : Calls Tryz.prog n_engine_Engine_Held_1 #[.pointer (some a0), .pointer (some c0)] w R :=
 calls_of_eq (an := ⟨[], [], []⟩) (args := [.pointer (some a0), .pointer (some c0)]) Tryz.noNG Tryz.mixed Tryz.func147 h (by kernel_rfl)
def slices_ContainsFunc_life.pre (a0 : Sl) (a1 : Value) (w : World) (R : Ending → World → Prop) : Prop :=
 Calls Tryz.prog 214 #[.slice a0.a a0.n a0.c, a1] w (fun e w0 => ∃ (x1 : Int), e = .returned (.int .i64 x1) ∧
 R (.returned (.bool (decide ((x1 : Int) ≥ 0)))) w0)
theorem slices_ContainsFunc_life.vc {a0 a1 w} {R : Ending → World → Prop} (h : slices_ContainsFunc_life.pre a0 a1 w R) : Calls Tryz.prog n_slices_ContainsFunc_life #[.slice a0.a a0.n a0.c, a1] w R :=
 calls_of_eq (an := ⟨[], [], []⟩) (args := [.slice a0.a a0.n a0.c, a1]) Tryz.noNG Tryz.mixed Tryz.func146 h (by kernel_rfl)
def engine_Engine_Held.pre (a0 : Addr) (a1_0 : Int) (a1_1 : Int) (a1_2 : Int) (w : World) (R : Ending → World → Prop) : Prop :=
 ∀ w0 : World, w0 = w.alloc (.cells #[.int .i64 a1_0, .int .i64 a1_1, .int .i64 a1_2] 23) →
 Calls Tryz.prog n_cell_Box #[.agg #[.int .i64 a1_0, .int .i64 a1_1, .int .i64 a1_2]] w0 (fun e w1 => ∃ (x2 : Int) (x3 : Int) (x4 : Int) (x5 : Int) (x6 : Int) (x7 : Int), e = .returned (.agg #[.int .i64 x2, .int .i64 x3, .int .i64 x4, .int .i64 x5, .int .i64 x6, .int .i64 x7]) ∧ w1.heap[w.heap.size]? = w0.heap[w.heap.size]? ∧
 ∀ w8 : World, w8 = w1.alloc (.cells #[.int .i64 0, .int .i64 0, .int .i64 0, .int .i64 0, .int .i64 0, .int .i64 0] 202) →
 ∀ w9 : World, w9 = w8.setRow w1.heap.size #[.int .i64 x2, .int .i64 x3, .int .i64 x4, .int .i64 x5, .int .i64 x6, .int .i64 x7] →
 Calls Tryz.prog n_slices_ContainsFunc_life #[.slice (slBase (padd (some a0) 1) (0) (16) 1) (16 - 0) (16 - 0), .func (.func 147) #[] #[.pointer (some ⟨w1.heap.size, 0, none⟩)]] w9 (fun e w10 => ∃ (b11 : Bool), e = .returned (.bool b11) ∧ w10.heap[w.heap.size]? = w9.heap[w.heap.size]? ∧
 R (.returned (.bool b11)) w10))
theorem engine_Engine_Held.vc {a0 a1_0 a1_1 a1_2 w} {R : Ending → World → Prop} (h : engine_Engine_Held.pre a0 a1_0 a1_1 a1_2 w R) : Calls Tryz.prog n_engine_Engine_Held #[.pointer (some a0), .agg #[.int .i64 a1_0, .int .i64 a1_1, .int .i64 a1_2]] w R :=
 calls_of_eq (an := ⟨[], [], []⟩) (args := [.pointer (some a0), .agg #[.int .i64 a1_0, .int .i64 a1_1, .int .i64 a1_2]]) Tryz.noNG Tryz.mixed Tryz.func84 h (by kernel_rfl)
def engine_Engine_Edit.pre (a0 : Addr) (a1_0 : Int) (a1_1 : Int) (a1_2 : Int) (a2 : Int) (w : World) (R : Ending → World → Prop) : Prop :=
 ∀ w0 : World, w0 = w.alloc (.cells #[.int .i64 a1_0, .int .i64 a1_1, .int .i64 a1_2] 23) →
 Calls Tryz.prog 187 #[.int .i64 a2] w0 (fun e w1 => ∃ (b2 : Bool), e = .returned (.bool b2) ∧ w1.heap[w.heap.size]? = w0.heap[w.heap.size]? ∧
 Br b2
 (Calls Tryz.prog n_engine_Engine_Held #[.pointer (some a0), .agg #[.int .i64 a1_0, .int .i64 a1_1, .int .i64 a1_2]] w1 (fun e w3 => ∃ (b4 : Bool), e = .returned (.bool b4) ∧ w3.heap[w.heap.size]? = w1.heap[w.heap.size]? ∧
 Br b4
 (R (.returned (.int .i64 12)) w3)
 (∃ (p5 : Option Addr), ld w3.drew (padd (some a0) 0) = some (.pointer p5) ∧
 Calls Tryz.prog 188 #[.pointer p5, .agg #[.int .i64 a1_0, .int .i64 a1_1, .int .i64 a1_2], .int .i64 a2] w3.drew (fun e w6 => ∃ (x7 : Int), e = .returned (.int .i64 x7) ∧ w6.heap[w.heap.size]? = w3.drew.heap[w.heap.size]? ∧
 R (.returned (.int .i64 x7)) w6))))
 (∃ (p8 : Option Addr), ld w1.drew (padd (some a0) 0) = some (.pointer p8) ∧
 Calls Tryz.prog 188 #[.pointer p8, .agg #[.int .i64 a1_0, .int .i64 a1_1, .int .i64 a1_2], .int .i64 a2] w1.drew (fun e w9 => ∃ (x10 : Int), e = .returned (.int .i64 x10) ∧ w9.heap[w.heap.size]? = w1.drew.heap[w.heap.size]? ∧
 R (.returned (.int .i64 x10)) w9)))
theorem engine_Engine_Edit.vc {a0 a1_0 a1_1 a1_2 a2 w} {R : Ending → World → Prop} (h : engine_Engine_Edit.pre a0 a1_0 a1_1 a1_2 a2 w R) : Calls Tryz.prog n_engine_Engine_Edit #[.pointer (some a0), .agg #[.int .i64 a1_0, .int .i64 a1_1, .int .i64 a1_2], .int .i64 a2] w R :=
 calls_of_eq (an := ⟨[], [], []⟩) (args := [.pointer (some a0), .agg #[.int .i64 a1_0, .int .i64 a1_1, .int .i64 a1_2], .int .i64 a2]) Tryz.noNG Tryz.mixed Tryz.func126 h (by kernel_rfl)
def engine_Engine_Body.pre (a0 : Addr) (a1 : Int) (w : World) (R : Ending → World → Prop) : Prop :=
 ∀ w0 : World, w0 = w.alloc (.cells #[.int .i64 0, .int .i64 0, .int .i64 0, .int .i64 0, .int .i64 0, .int .i64 0, .int .i64 0, .int .i64 0, .bool false] 75) →
 Calls Tryz.prog 76 #[.pointer (some a0), .int .i64 a1] w0 (fun e w1 => ∃ (p2 : Option Addr), e = .returned (.pointer p2) ∧ w1.heap[w.heap.size]? = w0.heap[w.heap.size]? ∧
 Br (p2).isNone
 (∀ w3 : World, w3 = w1.setRow w.heap.size #[.int .i64 0, .int .i64 0, .int .i64 0, .int .i64 0, .int .i64 0, .int .i64 0, .int .i64 0, .int .i64 0, .bool false] →
 R (.returned (.tuple #[.agg #[.int .i64 0, .int .i64 0, .int .i64 0, .int .i64 0, .int .i64 0, .int .i64 0, .int .i64 0, .int .i64 0, .bool false], .bool false])) w3)
 (AndL (nnC p2) (AndL (nnC p2) (∃ (x4 : Int) (x5 : Int) (x6 : Int) (x7 : Int) (x8 : Int) (x9 : Int) (x10 : Int) (x11 : Int) (b12 : Bool), LoadL w1 (padd p2 0) 0 [.int .i64 x4, .int .i64 x5, .int .i64 x6, .int .i64 x7, .int .i64 x8, .int .i64 x9, .int .i64 x10, .int .i64 x11, .bool b12] ∧
 ∀ w13 : World, w13 = w1.setRow w.heap.size #[.int .i64 x4, .int .i64 x5, .int .i64 x6, .int .i64 x7, .int .i64 x8, .int .i64 x9, .int .i64 x10, .int .i64 x11, .bool b12] →
 R (.returned (.tuple #[.agg #[.int .i64 x4, .int .i64 x5, .int .i64 x6, .int .i64 x7, .int .i64 x8, .int .i64 x9, .int .i64 x10, .int .i64 x11, .bool b12], .bool true])) w13))))
theorem engine_Engine_Body.vc {a0 a1 w} {R : Ending → World → Prop} (h : engine_Engine_Body.pre a0 a1 w R) : Calls Tryz.prog n_engine_Engine_Body #[.pointer (some a0), .int .i64 a1] w R :=
 calls_of_eq (an := ⟨[], [], []⟩) (args := [.pointer (some a0), .int .i64 a1]) Tryz.noNG Tryz.mixed Tryz.func47 h (by kernel_rfl)
end Go.Proofs.YtjcnjlaelhdjeaaGreatDoor
namespace Go.Proofs.YtjcnjlaelhdjeaaGreatDoor
open Go Go.Vc Go.RowKit Go.Proofs Go.Chk Go.Runs Go.Code Go.Que Go.Flw Go.Eng
set_option maxRecDepth 100000
end Go.Proofs.YtjcnjlaelhdjeaaGreatDoor
namespace Go.Proofs.YtjcnjlaelhdjeaaGreatDoor
open Go Go.Vc Go.RowKit Go.Proofs Go.Chk Go.Runs Go.Code Go.Que Go.Flw Go.Eng
set_option maxRecDepth 100000
end Go.Proofs.YtjcnjlaelhdjeaaGreatDoor
namespace Go.Proofs.YtjcnjlaelhdjeaaGreatDoor
open Go Go.Vc Go.RowKit Go.Proofs Go.Chk Go.Runs Go.Code Go.Que Go.Flw Go.Eng
set_option maxRecDepth 100000
end Go.Proofs.YtjcnjlaelhdjeaaGreatDoor
namespace Go.Proofs.YtjcnjlaelhdjeaaGreatDoor
open Go Go.Vc Go.RowKit Go.Proofs Go.Chk Go.Runs Go.Code Go.Que Go.Flw Go.Eng
set_option maxRecDepth 100000
end Go.Proofs.YtjcnjlaelhdjeaaGreatDoor
namespace Go.Proofs.YtjcnjlaelhdjeaaGreatDoor
open Go Go.Vc Go.RowKit Go.Proofs Go.Chk Go.Runs Go.Code Go.Que Go.Flw Go.Eng
set_option maxRecDepth 100000
end Go.Proofs.YtjcnjlaelhdjeaaGreatDoor
namespace Go.Proofs.YtjcnjlaelhdjeaaGreatDoor
open Go Go.Vc Go.RowKit Go.Proofs Go.Chk Go.Runs Go.Code Go.Que Go.Flw Go.Eng
set_option maxRecDepth 100000
end Go.Proofs.YtjcnjlaelhdjeaaGreatDoor
namespace Go.Proofs.YtjcnjlaelhdjeaaGreatDoor
open Go Go.Vc Go.RowKit Go.Proofs
set_option maxRecDepth 100000
set_option maxHeartbeats 8000000
set_option linter.unusedVariables false
abbrev n_engine_Engine_Held_1n : FuncId := 147
def engine_Engine_Held_1n.pre (c0 : Addr) (w : World) (R : Ending → World → Prop) : Prop :=
 Br (!((none : Option Addr)).isNone)
 (AndL (nnC (none : Option Addr)) (AndL (nnC (none : Option Addr)) (∃ (x0 : Int) (x1 : Int) (x2 : Int) (x3 : Int) (x4 : Int) (x5 : Int) (x6 : Int) (x7 : Int) (b8 : Bool), LoadL w.drew (padd (none : Option Addr) 0) 0 [.int .i64 x0, .int .i64 x1, .int .i64 x2, .int .i64 x3, .int .i64 x4, .int .i64 x5, .int .i64 x6, .int .i64 x7, .bool b8] ∧
 ∃ (x9 : Int) (x10 : Int) (x11 : Int) (x12 : Int) (x13 : Int) (x14 : Int), LoadL w.drew (some c0) 0 [.int .i64 x9, .int .i64 x10, .int .i64 x11, .int .i64 x12, .int .i64 x13, .int .i64 x14] ∧
 Calls Tryz.prog 149 #[.agg #[.int .i64 x0, .int .i64 x1, .int .i64 x2, .int .i64 x3, .int .i64 x4, .int .i64 x5, .int .i64 x6, .int .i64 x7, .bool b8]] w.drew (fun e w15 => ∃ (x16 : Int) (x17 : Int) (x18 : Int) (x19 : Int) (x20 : Int) (x21 : Int), e = .returned (.agg #[.int .i64 x16, .int .i64 x17, .int .i64 x18, .int .i64 x19, .int .i64 x20, .int .i64 x21]) ∧
 LoadL w15 (some c0) 0 [.int .i64 x9, .int .i64 x10, .int .i64 x11, .int .i64 x12, .int .i64 x13, .int .i64 x14] ∧ Calls Tryz.prog 148 #[.agg #[.int .i64 x16, .int .i64 x17, .int .i64 x18, .int .i64 x19, .int .i64 x20, .int .i64 x21], .agg #[.int .i64 x9, .int .i64 x10, .int .i64 x11, .int .i64 x12, .int .i64 x13, .int .i64 x14]] w15 (fun e w22 => ∃ (b23 : Bool), e = .returned (.bool b23) ∧
 R (.returned (.bool b23)) w22)))))
 (R (.returned (.bool false)) w.drew)
theorem engine_Engine_Held_1n.vc {c0 w} {R : Ending → World → Prop} (h : engine_Engine_Held_1n.pre c0 w R) : Calls Tryz.prog n_engine_Engine_Held_1n #[.pointer (none : Option Addr), .pointer (some c0)] w R :=
 calls_of_eq (an := ⟨[], [], []⟩) (args := [.pointer (none : Option Addr), .pointer (some c0)]) Tryz.noNG Tryz.mixed Tryz.func147 h (by kernel_rfl)
end Go.Proofs.YtjcnjlaelhdjeaaGreatDoor
namespace Go.Proofs.YtjcnjlaelhdjeaaGreatDoor
open Go Go.Vc Go.RowKit Go.Proofs Go.Chk Go.Runs Go.Code Go.Que Go.Flw Go.Eng
set_option maxRecDepth 100000
def cboxK (c : Ce) : Bx := ((ofF c.1, ofF c.2.1, ofF c.2.2), addV (ofF c.1, ofF c.2.1, ofF c.2.2) (65536, 65536, 65536))
theorem cBox_spec (c : Ce) (w : World) : Calls Tryz.prog n_cell_Box #[cev c] w fun e w' => e = .returned (bxv (cboxK c)) ∧ Ext w w' := by
 apply cell_Box.vc
 intro w0 e0 w1 e1
 have x0 : Ext w w0 := (Ext.rfl' _).of_alloc e0
 have z0 := zA e0
 have r0 : ∃ τ, Row w0 w.heap.size [.int .i64 c.1, .int .i64 c.2.1, .int .i64 c.2.2] τ := ⟨_, by rw [e0]; exact Row.new w [_, _, _] _⟩
 have x1 : Ext w0 w1 := (Ext.rfl' _).of_alloc e1
 have z1 := zA e1
 have hd : w1.drew.heap.size = w1.heap.size := rfl
 clear e0 e1
 obtain ⟨τ, r0⟩ := r0
 have r1 := r0.ext (x1.tr (Ext.dr w1))
 have x01 := x0.tr (x1.tr (Ext.dr w1))
 have last : ∀ v1 v2 : World, v1 = w1.drew.alloc (.cells #[.int .i64 0, .int .i64 0, .int .i64 0] tVec) → v2 = v1.setRow w1.drew.heap.size #[.int .i64 (ofF c.1), .int .i64 (ofF c.2.1), .int .i64 (ofF c.2.2)] →
   Calls Tryz.prog n_vec_Add #[cev (ofF c.1, ofF c.2.1, ofF c.2.2), cev (65536, 65536, 65536)] v2.drew fun e w10 => ∃ x y z : Int, e = .returned (.agg #[.int .i64 x, .int .i64 y, .int .i64 z]) ∧ w10.heap[w.heap.size]? = v2.drew.heap[w.heap.size]? ∧ w10.heap[w0.heap.size]? = v2.drew.heap[w0.heap.size]? ∧ w10.heap[w1.drew.heap.size]? = v2.drew.heap[w1.drew.heap.size]? ∧
    LoadL w10 (some ⟨w1.drew.heap.size, 0, none⟩) 0 [.int .i64 (ofF c.1), .int .i64 (ofF c.2.1), .int .i64 (ofF c.2.2)] ∧ ∀ w14 : World, w14 = w10.setRow w0.heap.size #[.int .i64 (ofF c.1), .int .i64 (ofF c.2.1), .int .i64 (ofF c.2.2), .int .i64 x, .int .i64 y, .int .i64 z] →
    Ending.returned (.agg #[.int .i64 (ofF c.1), .int .i64 (ofF c.2.1), .int .i64 (ofF c.2.2), .int .i64 x, .int .i64 y, .int .i64 z]) = .returned (bxv (cboxK c)) ∧ Ext w w14 := by
  intro v1 v2 f1 f2
  have y1 : Ext w1.drew v2 := ((Ext.rfl' _).of_alloc f1).of_setRow f2 (Nat.le_refl _)
  have s2 : v2.drew.heap.size = w1.heap.size + 1 := by show v2.heap.size = _; rw [zR f2, zA f1]; rfl
  have rv : Row v2 w1.drew.heap.size [.int .i64 (ofF c.1), .int .i64 (ofF c.2.1), .int .i64 (ofF c.2.2)] tVec := by rw [f2, f1]; exact Row.set (Row.new w1.drew [_, _, _] _) [_, _, _]
  clear f1 f2
  refine (vAdd_spec (ofF c.1, ofF c.2.1, ofF c.2.2) (65536, 65536, 65536) v2.drew).mono ?_
  rintro e w10 ⟨rfl, x10⟩
  exact ⟨_, _, _, rfl, x10.heap (by omega), x10.heap (by omega), x10.heap (by omega), Lo.wv (rv.ext ((Ext.dr v2).tr x10)), fun w14 e14 => ⟨rfl, (x01.tr (y1.tr ((Ext.dr v2).tr x10))).of_setRow e14 (by omega)⟩⟩
 have of1 : ∀ (n : Int) {u : World} {R : Ending → World → Prop}, R (.returned (.int .i64 (ofF n))) u → Calls Tryz.prog n_fixed_Of #[.int .i64 n] u R := fun n u R h => (Of_spec n u).mono (by rintro e w' ⟨rfl, rfl⟩; exact h)
 have l2 : LoadL w1.drew (some ⟨w.heap.size, 2, none⟩) 0 [.int .i64 c.2.2] := ld1 r1 rfl
 have l1 : LoadL w1.drew (some ⟨w.heap.size, 1, none⟩) 0 [.int .i64 c.2.1] := ld1 r1 rfl
 refine ⟨of1 _ ⟨_, rfl, rfl, rfl, l2, l1, of1 _ ⟨_, rfl, rfl, rfl, l2, of1 _ ⟨_, rfl, rfl, rfl, fun w8 e8 w9 e9 => last _ _ e8 e9, fun w8 e8 w9 e9 => last _ _ e8 e9⟩, fun w22 e22 => ?_⟩, fun w31 e31 => ?_⟩, fun w42 e42 => ?_⟩
 ·exact of1 _ ⟨_, rfl, rfl, rfl, rfl, fun w25 e25 => last _ _ e22 e25⟩
 ·have xa : Ext w1.drew w31 := (Ext.rfl' _).of_alloc e31
  exact of1 _ ⟨_, rfl, rfl, rfl, rfl, ld1 (r1.ext xa) rfl, of1 _ ⟨_, rfl, rfl, rfl, rfl, fun w36 e36 => last _ _ e31 e36⟩⟩
 ·have xa : Ext w1.drew w42 := (Ext.rfl' _).of_alloc e42
  exact of1 _ ⟨_, rfl, rfl, rfl, rfl, ld1 (r1.ext xa) rfl, ld1 (r1.ext xa) rfl, of1 _ ⟨_, rfl, rfl, rfl, rfl, ld1 (r1.ext xa) rfl, of1 _ ⟨_, rfl, rfl, rfl, rfl, fun w49 e49 => last _ _ e42 e49⟩⟩⟩
def meetL (c : Ce) (x : Option Lfe) : Bool := match x with | some y => overlapK y.1.box (cboxK c) | none => false
def heldL (L : List (Option Lfe)) (c : Ce) : Bool := L.any (meetL c)
set_option maxHeartbeats 1000000 in
theorem Held1_spec {w : World} {a : Option Nat} {x : Option Lfe} (ha : ∀ b, a = some b → ∃ y, x = some y ∧ Row w b (lfL y) tLfe ∧ inI y.1.wd) (hn : a = none → x = none) {c : Ce} {g : Nat} {τ : TypeId} (hg : Row w g (bxL (cboxK c)) τ) :
  Calls Tryz.prog n_engine_Engine_Held_1 #[pA a, .pointer (some ⟨g, 0, none⟩)] w fun e w' => e = .returned (.bool (meetL c x)) ∧ Ext w w' := by
 cases a with
 | none =>
   rw [hn rfl]
   apply engine_Engine_Held_1n.vc
   exact nope rfl ⟨rfl, Ext.dr w⟩
 | some b =>
   obtain ⟨y, rfl, hr, hw⟩ := ha b rfl
   apply (engine_Engine_Held_1.vc (a0 := ⟨b, 0, none⟩))
   refine ⟨_, _, _, _, _, _, _, _, _, (hr.ext (Ext.dr w)).loadL (vs := bdL y.1) (o := 0) (fun j hj => ?_), _, _, _, _, _, _, Lo.wv (hg.ext (Ext.dr w)), (bBox_spec y.1 hw w.drew).mono ?_⟩
   ·have hj : j < 9 := hj
    have : j = 0 ∨ j = 1 ∨ j = 2 ∨ j = 3 ∨ j = 4 ∨ j = 5 ∨ j = 6 ∨ j = 7 ∨ j = 8 := by omega
    rcases this with rfl | rfl | rfl | rfl | rfl | rfl | rfl | rfl | rfl <;> rfl
   rintro e w15 ⟨rfl, x15⟩
   refine ⟨_, _, _, _, _, _, rfl, Lo.wv (hg.ext ((Ext.dr w).tr x15)), (Overlap_spec y.1.box (cboxK c) w15).mono ?_⟩
   rintro e w22 ⟨rfl, x22⟩
   exact ⟨_, rfl, rfl, (Ext.dr w).tr (x15.tr x22)⟩
end Go.Proofs.YtjcnjlaelhdjeaaGreatDoor
namespace Go.Proofs.YtjcnjlaelhdjeaaGreatDoor
open Go Go.Vc Go.RowKit Go.Proofs Go.Chk Go.Runs Go.Code Go.Que Go.Flw Go.Eng
set_option maxRecDepth 100000
def okL (m : Int) (L : List (Option Lfe)) : Prop := ∀ y, some y ∈ L → okB m y.1
section
variable {F F' : Nat → Prop} {w w' : World} {g s o t : Nat} {M M' : Sm} {occ : Value} {L : List (Option Lfe)}
theorem EL.held {av : List (Option Nat)} (he : EL w av L) {m : Int} (hL : okL m L) {k : Nat} {a : Option Nat} (ha : av[k]? = some a) :
  ∃ x, L[k]? = some x ∧ (∀ b, a = some b → ∃ y, x = some y ∧ Row w b (lfL y) tLfe ∧ inI y.1.wd) ∧ (a = none → x = none) := by
 cases a with
 | none => exact ⟨none, he.z k ha, fun b hb => (by cases hb), fun _ => rfl⟩
 | some b =>
   obtain ⟨y, hy, hr⟩ := he.s k b ha
   exact ⟨some y, hy, fun b' hb => by cases hb; exact ⟨y, rfl, hr, (hL y (List.mem_of_getElem? hy)).wdi⟩, fun q => (by cases q)⟩
set_option maxHeartbeats 1000000 in
theorem IndexF_spec {p : Value} {av : List (Option Nat)} {τ τ' : TypeId} (hr : Row w g (p :: av.map pA) τ) (he : EL w av L) {m : Int} (hL : okL m L) {c : Ce} {b : Nat} (hb : Row w b (bxL (cboxK c)) τ') :
  Calls Tryz.prog n_slices_IndexFunc_life #[.slice (slBase (padd (some ⟨g, 0, none⟩) 1) 0 16 1) (16 - 0) (16 - 0), .func (.func n_engine_Engine_Held_1) #[] #[.pointer (some ⟨b, 0, none⟩)]] w fun e w' => (∃ n : Int, e = .returned (.int .i64 n) ∧ decide (n ≥ 0) = heldL L c) ∧ Ext w w' := by
 apply (slices_IndexFunc_life.vc (a0 := ⟨slBase (padd (some ⟨g, 0, none⟩) 1) 0 16 1, 16 - 0, 16 - 0⟩))
 unfold slices_IndexFunc_life.pre
 rw [slBase_zero]
 refine ⟨fun n x wr => ∃ k : Nat, x = k ∧ k + n = 16 ∧ Ext w wr ∧ ∀ j, j < k → ∀ y, L[j]? = some y → meetL c y = false, ⟨16, 0, rfl, rfl, Ext.rfl' _, fun j hj => by omega⟩, ?_⟩
 rintro n us x wr ⟨k, rfl, hk, xr, hno⟩
 refine Br.mk (fun hq => ?_) (fun hq => ?_)
 ·have hq : (k : Int) < ((16 - 0 : Nat) : Int) := by simpa using hq
  obtain ⟨a, ha⟩ := get_lt (l := av) (i := k) (by have := he.n; omega)
  obtain ⟨y, hy, h1, h2⟩ := he.held hL ha
  refine ⟨⟨rfl, by omega, hq⟩, _, one_at (hr.ext xr) ha, callV_of (by kernel_rfl) rfl ((Held1_spec (a := a) (x := y) (fun b' e => ?_) h2 (hb.ext xr)).mono ?_)⟩
  ·obtain ⟨z, e1, e2, e3⟩ := h1 b' e
   exact ⟨z, e1, e2.ext xr, e3⟩
  rintro e w7 ⟨rfl, x7⟩
  refine ⟨_, rfl, Br.mk (fun hm => ⟨⟨_, rfl, ?_⟩, xr.tr x7⟩) (fun hm => ?_)⟩
  ·rw [decide_eq_true (by omega : (k : Int) ≥ 0)]
   exact (List.any_eq_true.2 ⟨y, List.mem_of_getElem? hy, hm⟩).symm
  ·have wk : IntKind.wrap .i64 ((k : Int) + 1) = ((k + 1 : Nat) : Int) := by rw [wrap_in (by unfold inI; omega)]; omega
   refine ⟨n - 1, by omega, k + 1, wk, by omega, xr.tr x7, fun j hj z hz => ?_⟩
   by_cases q : j < k
   ·exact hno j q z hz
   ·rw [show j = k from by omega, hy] at hz
    rw [← Option.some.inj hz]
    exact hm
 ·have hq : ¬ (k : Int) < ((16 - 0 : Nat) : Int) := by simpa using hq
  refine ⟨⟨_, rfl, ?_⟩, xr⟩
  rw [decide_eq_false (by decide)]
  refine (List.any_eq_false.2 fun y hy => ?_).symm
  obtain ⟨j, hj⟩ := List.mem_iff_getElem?.1 hy
  have := (List.getElem?_eq_some_iff.1 hj).1
  have := he.m
  rw [hno j (by omega) y hj]
  decide
theorem Held_spec {p : Value} {av : List (Option Nat)} {τ : TypeId} (hr : Row w g (p :: av.map pA) τ) (he : EL w av L) {m : Int} (hL : okL m L) (c : Ce) :
  Calls Tryz.prog n_engine_Engine_Held #[.pointer (some ⟨g, 0, none⟩), cev c] w fun e w' => e = .returned (.bool (heldL L c)) ∧ Ext w w' := by
 apply engine_Engine_Held.vc
 intro w0 e0
 have x0 : Ext w w0 := (Ext.rfl' _).of_alloc e0
 have z0 := zA e0
 clear e0
 refine (cBox_spec c w0).mono ?_
 rintro e w1 ⟨rfl, x1⟩
 have z1 := x1.size
 refine ⟨_, _, _, _, _, _, rfl, x1.heap (by omega), fun w8 e8 w9 e9 => ?_⟩
 have x9 : Ext w1 w9 := ((Ext.rfl' _).of_alloc e8).of_setRow e9 (Nat.le_refl _)
 have r9 : ∃ τ', Row w9 w1.heap.size (bxL (cboxK c)) τ' := ⟨_, by rw [e9, e8]; exact Row.set (Row.new w1 [_, _, _, _, _, _] _) [_, _, _, _, _, _]⟩
 have z9 : w9.heap.size = w1.heap.size + 1 := by rw [zR e9, zA e8]
 clear e8 e9
 obtain ⟨τ', r9⟩ := r9
 have x09 := x0.tr (x1.tr x9)
 refine Calls.mono (slices_ContainsFunc_life.vc (a0 := ⟨slBase (padd (some ⟨g, 0, none⟩) 1) 0 16 1, 16 - 0, 16 - 0⟩) (R := fun e w' => e = .returned (.bool (heldL L c)) ∧ Ext w9 w') ?_) ?_
 ·refine (IndexF_spec (hr.ext x09) (he.same fun a ha => x09.heap (he.lt ha)) hL r9).mono ?_
  rintro e w10 ⟨⟨n, rfl, hn⟩, x10⟩
  exact ⟨n, rfl, by rw [hn], x10⟩
 ·rintro e w10 ⟨rfl, x10⟩
  exact ⟨_, rfl, x10.heap (by omega), rfl, x09.tr x10⟩
end
end Go.Proofs.YtjcnjlaelhdjeaaGreatDoor
namespace Go.Proofs.YtjcnjlaelhdjeaaGreatDoor
open Go Go.Vc Go.RowKit Go.Proofs Go.Chk Go.Runs Go.Code Go.Que Go.Flw Go.Eng
set_option maxRecDepth 100000
section
variable {F F' : Nat → Prop} {w w' : World} {g s o t : Nat} {M M' : Sm} {occ : Value} {L : List (Option Lfe)}
theorem EL.at {av : List (Option Nat)} (he : EL w av L) {k b : Nat} (ha : av[k]? = some (some b)) : ∃ y, lifeK L k = some y ∧ some y ∈ L ∧ Row w b (lfL y) tLfe := by
 obtain ⟨y, hy, hr⟩ := he.s k b ha
 refine ⟨y, ?_, List.mem_of_getElem? hy, hr⟩
 unfold lifeK
 rw [if_pos (by omega), Int.toNat_natCast, hy]
 rfl
theorem EL.at0 {av : List (Option Nat)} (he : EL w av L) {k : Nat} (ha : av[k]? = some none) : lifeK L k = none := by
 unfold lifeK
 rw [if_pos (by omega), Int.toNat_natCast, he.z k ha]
 rfl
theorem lf_bd {b : Nat} {y : Lfe} (hr : Row w b (lfL y) tLfe) : LoadL w (padd (some ⟨b, 0, none⟩) 0) 0 (bdL y.1) := by
 rw [padd_row]
 refine hr.loadL (o := 0) fun j hj => ?_
 have hj : j < 9 := hj
 have : j = 0 ∨ j = 1 ∨ j = 2 ∨ j = 3 ∨ j = 4 ∨ j = 5 ∨ j = 6 ∨ j = 7 ∨ j = 8 := by omega
 rcases this with rfl | rfl | rfl | rfl | rfl | rfl | rfl | rfl | rfl <;> rfl
end
end Go.Proofs.YtjcnjlaelhdjeaaGreatDoor
namespace Go.Proofs.YtjcnjlaelhdjeaaGreatDoor
open Go Go.Vc Go.RowKit Go.Proofs Go.Chk Go.Runs Go.Code Go.Que Go.Flw Go.Eng
set_option maxRecDepth 100000
section
variable {F F' : Nat → Prop} {w w' : World} {g s o t : Nat} {M M' : Sm} {occ : Value} {L : List (Option Lfe)}
theorem ERes.of_ext {w0 : World} (x : Ext w w0) (h : ERes F w0 g s o t M occ L w') : ERes F w g s o t M occ L w' := by
 obtain ⟨F', h1, h2⟩ := h
 exact ⟨F', h1, (Turned.of_ext x).trans h2⟩
def tellE (L : List (Option Lfe)) (n : Int) (i : Int × Int × Bool) : Int × List (Option Lfe) := match lifeK L n with | none => (6, L) | some y => (0, L.set n.toNat (some (y.1, i)))
def zeroB : Bdy := ⟨(0, 0, 0), (0, 0, 0), 0, 0, false⟩
def bodyE (L : List (Option Lfe)) (n : Int) : Bdy × Bool := match lifeK L n with | none => (zeroB, false) | some y => (y.1, true)
theorem Body_spec (h : EF F w g s o t M occ L) (n : Int) : Calls Tryz.prog n_engine_Engine_Body #[.pointer (some ⟨g, 0, none⟩), .int .i64 n] w fun e w' => e = .returned (.tuple #[bdv (bodyE L n).1, .bool (bodyE L n).2]) ∧ Ext w w' := by
 apply engine_Engine_Body.vc
 intro w0 e0
 have x0 : Ext w w0 := (Ext.rfl' _).of_alloc e0
 have z0 := zA e0
 clear e0
 have h0 := h.ext x0
 obtain ⟨av, hrow, hel, -, -, -⟩ := h0.row
 refine (at_spec hrow hel.n n).mono ?_
 rintro e w1 ⟨a, rfl, hw1, hc⟩
 subst hw1
 unfold bodyE
 refine ⟨_, rfl, rfl, ?_⟩
 rcases hc with ⟨k, rfl, hk, ha⟩ | ⟨hout, rfl⟩
 case inr =>
  rw [lifeK_out hel.m hout]
  exact yes rfl fun w3 e3 => ⟨rfl, x0.of_setRow e3 (by omega)⟩
 cases a with
 | none =>
   rw [hel.at0 ha]
   exact yes rfl fun w3 e3 => ⟨rfl, x0.of_setRow e3 (by omega)⟩
 | some b =>
   obtain ⟨y, hy, hmem, hrb⟩ := hel.at ha
   rw [hy]
   exact nope rfl (nnP rfl (nnP rfl ⟨_, _, _, _, _, _, _, _, _, lf_bd hrb, fun w13 e13 => ⟨rfl, x0.of_setRow e13 (by omega)⟩⟩))
def eeditE (M : Sm) (L : List (Option Lfe)) (c : Ce) (b : Int) : Int × Sm := if bSolid b = true ∧ heldL L c = true then (12, M) else ((setE M.T.2 c b).2, editM M c b)
theorem eEdit_spec (h : EF F w g s o t M occ L) {m : Int} (hL : okL m L) (c : Ce) (hc : wideC c) (b : Int) (hk : Sok M 800000) : Calls Tryz.prog n_engine_Engine_Edit #[.pointer (some ⟨g, 0, none⟩), cev c, .int .i64 b] w fun e w' => e = .returned (.int .i64 (eeditE M L c b).1) ∧ ERes F w g s o t (eeditE M L c b).2 occ L w' := by
 apply engine_Engine_Edit.vc
 intro w0 e0
 have x0 : Ext w w0 := (Ext.rfl' _).of_alloc e0
 have z0 := zA e0
 clear e0
 have inner : ∀ {u : World}, Ext w0 u → ¬ (bSolid b = true ∧ heldL L c = true) → ∃ p : Option Addr, Vc.ld u (padd (some ⟨g, 0, none⟩) 0) = some (.pointer p) ∧
   Calls Tryz.prog n_sim_Sim_Edit #[.pointer p, cev c, .int .i64 b] u fun e w6 => ∃ x7 : Int, e = .returned (.int .i64 x7) ∧ w6.heap[w.heap.size]? = u.heap[w.heap.size]? ∧ Ending.returned (.int .i64 x7) = .returned (.int .i64 (eeditE M L c b).1) ∧ ERes F w g s o t (eeditE M L c b).2 occ L w6 := by
  intro u xu hn
  have hu := h.ext (x0.tr xu)
  have zu := xu.size
  obtain ⟨Fs, hs, hld, hsub, hres⟩ := hu.sim
  refine ⟨_, hld, (sEdit_spec hs c hc b hk).mono ?_⟩
  rintro e w6 ⟨rfl, hr⟩
  have hk6 : w6.heap[w.heap.size]? = u.heap[w.heap.size]? := by
   obtain ⟨F6, -, t6⟩ := hr
   exact t6.mod.same _ (by omega) fun q => by have := h.lt (hsub _ q); omega
  unfold eeditE
  rw [if_neg hn]
  exact ⟨_, rfl, hk6, rfl, ERes.of_ext (x0.tr xu) (hres hr)⟩
 refine (block_Solid_spec b w0).mono ?_
 rintro e w1 ⟨rfl, hw1⟩
 subst hw1
 refine ⟨_, rfl, rfl, Br.mk (fun hb => ?_) (fun hb => inner (Ext.dr _) fun q => by rw [hb] at q; cases q.1)⟩
 have h1 := h.ext x0
 obtain ⟨av, hrow, hel, -, -, -⟩ := h1.row
 refine (Held_spec hrow hel hL c).mono ?_
 rintro e w3 ⟨rfl, x3⟩
 have z3 := x3.size
 refine ⟨_, rfl, x3.heap (by omega), Br.mk (fun hq => ?_) (fun hq => ?_)⟩
 ·unfold eeditE
  rw [if_pos ⟨hb, hq⟩]
  exact ⟨rfl, h.res (x0.tr x3)⟩
 ·exact inner (x3.tr (Ext.dr _)) fun q => by rw [hq] at q; cases q.2
end
end Go.Proofs.YtjcnjlaelhdjeaaGreatDoor
namespace Go.Proofs.YtjcnjlaelhdjeaaGreatDoor
open Go Go.Vc Go.RowKit Go.Proofs Go.Lin Go.Chk Go.Runs Go.Code Go.Que Go.Flw Go.Eng
set_option linter.unusedVariables false
theorem block_Parse_spec (s : ByteArray) (w : World) : Calls Tryz.prog n_block_Parse #[.string s] w fun e w' => e = .returned (.tuple #[.int .i64 (pRes s).1, .bool (pRes s).2]) ∧ Ext w w' := by
 apply block_Parse.vc
 refine (block_names_spec w).mono ?_
 rintro e w0 ⟨rfl, x0⟩
 refine ⟨_, _, _, _, _, _, _, _, _, _, _, _, _, _, _, _, rfl, ?_⟩
 refine ⟨fun n x wr => ∃ k : Nat, x = k ∧ k + n = 16 ∧ Ext w wr ∧ ∀ j : Nat, j < k → pHit s j = false, ⟨16, 0, rfl, rfl, x0, fun j hj => by omega⟩, ?_⟩
 rintro n us x wr ⟨k, rfl, hk, xr, hn⟩
 refine Br.mk (fun h => ?_) (fun h => ?_) <;> simp at h
 ·have hw := wrap_in (n := (k : Int) + 1) (by unfold inI; omega)
  have next : pHit s k = false → ∃ n22, n22 < n ∧ ∃ k_1 : Nat, IntKind.wrap .i64 ((k : Int) + 1) = ↑k_1 ∧ k_1 + n22 = 16 ∧ Ext w wr ∧ ∀ j : Nat, j < k_1 → pHit s ↑j = false := by
   intro hf
   refine ⟨n - 1, by omega, k + 1, by omega, by omega, xr, fun j hj => ?_⟩
   rcases Nat.lt_or_ge j k with hlt | hge
   ·exact hn j hlt
   ·obtain rfl : j = k := by omega
    exact hf
  refine ⟨⟨by omega, h⟩, _, nm_get k (by omega) h, Br.mk (fun h1 => Br.mk (fun h2 => ?_) (fun h2 => ?_)) (fun h1 => ?_)⟩
  ·have hm : bMay k = true := by
    rw [bMay_iff]
    intro e
    rw [strEq_iff] at h1
    rw [e] at h1
    simp [← h1] at h2
    exact absurd ((strEq_iff ⟨#[]⟩ ⟨#[]⟩).2 rfl) (by simp [h2])
   rw [pRes_hit (by omega) hn (by unfold pHit; rw [hm, h1]; rfl)]
   exact ⟨rfl, xr⟩
  ·refine next ?_
   have h2' : strEq s ⟨#[]⟩ = true := by simpa using h2
   rw [strEq_iff] at h1 h2'
   have : bMay k = false := by
    have := bMay_iff k
    cases hm : bMay k <;> simp_all
   unfold pHit; rw [this]; rfl
  ·exact next (by unfold pHit; rw [h1]; simp)
 ·rw [pRes_none (fun j hj => hn j (by omega))]
  exact ⟨rfl, xr⟩
def pBlk (ws : List ByteArray) : Option (Int × List ByteArray) := match pWord ws with | none => none | some (t, r) => if (pRes t).2 then some ((pRes t).1, r) else none
theorem blk_spec {w : World} {B g : Nat} {ws : List ByteArray} (h : AG w B g ws) : Calls Tryz.prog n_lines_args_block #[.pointer (some ⟨g, 0, none⟩)] w fun e w' => PR w B g (pBlk ws) (.int .i64 ·) e w' := by
 apply lines_args_block.vc
 unfold lines_args_block.pre
 refine (word_spec h).mono ?_
 rintro e w0 ⟨m0, hp⟩
 unfold pBlk
 cases hw : pWord ws with
 | none =>
   rw [hw] at hp
   subst hp
   exact ⟨m0, rfl⟩
 | some x =>
   obtain ⟨t, r⟩ := x
   rw [hw] at hp
   obtain ⟨rfl, ha⟩ := hp
   refine ⟨t, rfl, (block_Parse_spec t w0).mono ?_⟩
   rintro _ w2 ⟨rfl, x2⟩
   refine ⟨_, _, rfl, (must_spec _ w2).mono ?_⟩
   rintro e w5 ⟨he, rfl⟩
   have m5 : Mod (fun i => i = g) w w5 := m0.trans (Mod.of_ext x2)
   simp only
   cases hb : (pRes t).2 with
   | true =>
     rw [hb] at he
     simp only [if_true] at he
     subst he
     exact ⟨rfl, m5, rfl, ha.ext x2⟩
   | false =>
     rw [hb] at he
     simp only [Bool.false_eq_true, if_false] at he
     subst he
     exact ⟨m5, rfl⟩
end Go.Proofs.YtjcnjlaelhdjeaaGreatDoor
namespace Go.Proofs.YtjcnjlaelhdjeaaGreatDoor
open Go Go.Vc Go.RowKit Go.Proofs Go.Lin Go.Chk Go.Runs Go.Code Go.Que Go.Flw Go.Eng
set_option linter.unusedVariables false
noncomputable def frameOf (s : Stepped) : Frame :=
 match s with
 | .next m => match m.gs[0]? with
   | some g => g.frame
   | none => default
 | _ => default
theorem mk_calls {P : Program} {f : FuncId} {args : Array Value} {w w' : World} {v : Value} {fn : Func} (n : Nat) (fr : List Frame → Frame) (h : ∀ cs, runN P n (lone (Frame.enter P f args .normal) cs w) = .next (lone (fr cs) cs w')) (h1 : ∀ cs, (fr cs).fn = f) (h2 : ∀ cs, (fr cs).mode = .returning) (h3 : ∀ cs, (fr cs).defers = []) (h4 : ∀ cs, (fr cs).kind = .normal) (h5 : P.funcs[f]? = some fn) (h6 : ∀ cs, (results fn (fr cs).tmps).run P w' = .ok v w') :
  Calls P f args w fun e u => e = .returned v ∧ u = w' := fun cs =>
 ⟨.returned v, w', fr cs, ⟨rfl, rfl⟩, ⟨n, h cs⟩, h1 cs, h2 cs, h3 cs, h4 cs, fn, by rw [h1 cs]; exact h5, h6 cs⟩
noncomputable abbrev runE (x : Int) (w : World) (n : Nat) (cs : List Frame) : Frame := frameOf (Go.runN Tryz.prog n (lone (Frame.enter Tryz.prog 225 #[.int .i64 x] .normal) cs w))
def errT (x : Int) : ByteArray := if x = 0 then ByteArray.mk #[111, 107] else ByteArray.mk (#[101, 114, 114, 111, 114, 32] ++ (if x < 10 then #[UInt8.ofNat (48 + x.toNat)] else #[49, UInt8.ofNat (38 + x.toNat)]))
theorem err1 (w : World) : Calls Tryz.prog 225 #[.int .i64 1] w fun e w' => e = .returned (.string (errT 1)) ∧ w' = w :=
 mk_calls 51 (runE 1 w 51) (fun cs => by kernel_rfl) (fun cs => by kernel_rfl) (fun cs => by kernel_rfl) (fun cs => by kernel_rfl) (fun cs => by kernel_rfl) Tryz.func225 (fun cs => by kernel_rfl)
theorem err2 (w : World) : Calls Tryz.prog 225 #[.int .i64 2] w fun e w' => e = .returned (.string (errT 2)) ∧ w' = w :=
 mk_calls 51 (runE 2 w 51) (fun cs => by kernel_rfl) (fun cs => by kernel_rfl) (fun cs => by kernel_rfl) (fun cs => by kernel_rfl) (fun cs => by kernel_rfl) Tryz.func225 (fun cs => by kernel_rfl)
theorem err3 (w : World) : Calls Tryz.prog 225 #[.int .i64 3] w fun e w' => e = .returned (.string (errT 3)) ∧ w' = w :=
 mk_calls 51 (runE 3 w 51) (fun cs => by kernel_rfl) (fun cs => by kernel_rfl) (fun cs => by kernel_rfl) (fun cs => by kernel_rfl) (fun cs => by kernel_rfl) Tryz.func225 (fun cs => by kernel_rfl)
theorem err4 (w : World) : Calls Tryz.prog 225 #[.int .i64 4] w fun e w' => e = .returned (.string (errT 4)) ∧ w' = w :=
 mk_calls 51 (runE 4 w 51) (fun cs => by kernel_rfl) (fun cs => by kernel_rfl) (fun cs => by kernel_rfl) (fun cs => by kernel_rfl) (fun cs => by kernel_rfl) Tryz.func225 (fun cs => by kernel_rfl)
theorem err5 (w : World) : Calls Tryz.prog 225 #[.int .i64 5] w fun e w' => e = .returned (.string (errT 5)) ∧ w' = w :=
 mk_calls 51 (runE 5 w 51) (fun cs => by kernel_rfl) (fun cs => by kernel_rfl) (fun cs => by kernel_rfl) (fun cs => by kernel_rfl) (fun cs => by kernel_rfl) Tryz.func225 (fun cs => by kernel_rfl)
theorem err6 (w : World) : Calls Tryz.prog 225 #[.int .i64 6] w fun e w' => e = .returned (.string (errT 6)) ∧ w' = w :=
 mk_calls 51 (runE 6 w 51) (fun cs => by kernel_rfl) (fun cs => by kernel_rfl) (fun cs => by kernel_rfl) (fun cs => by kernel_rfl) (fun cs => by kernel_rfl) Tryz.func225 (fun cs => by kernel_rfl)
theorem err7 (w : World) : Calls Tryz.prog 225 #[.int .i64 7] w fun e w' => e = .returned (.string (errT 7)) ∧ w' = w :=
 mk_calls 51 (runE 7 w 51) (fun cs => by kernel_rfl) (fun cs => by kernel_rfl) (fun cs => by kernel_rfl) (fun cs => by kernel_rfl) (fun cs => by kernel_rfl) Tryz.func225 (fun cs => by kernel_rfl)
theorem err8 (w : World) : Calls Tryz.prog 225 #[.int .i64 8] w fun e w' => e = .returned (.string (errT 8)) ∧ w' = w :=
 mk_calls 51 (runE 8 w 51) (fun cs => by kernel_rfl) (fun cs => by kernel_rfl) (fun cs => by kernel_rfl) (fun cs => by kernel_rfl) (fun cs => by kernel_rfl) Tryz.func225 (fun cs => by kernel_rfl)
theorem err9 (w : World) : Calls Tryz.prog 225 #[.int .i64 9] w fun e w' => e = .returned (.string (errT 9)) ∧ w' = w :=
 mk_calls 51 (runE 9 w 51) (fun cs => by kernel_rfl) (fun cs => by kernel_rfl) (fun cs => by kernel_rfl) (fun cs => by kernel_rfl) (fun cs => by kernel_rfl) Tryz.func225 (fun cs => by kernel_rfl)
theorem err10 (w : World) : Calls Tryz.prog 225 #[.int .i64 10] w fun e w' => e = .returned (.string (errT 10)) ∧ w' = w :=
 mk_calls 78 (runE 10 w 78) (fun cs => by kernel_rfl) (fun cs => by kernel_rfl) (fun cs => by kernel_rfl) (fun cs => by kernel_rfl) (fun cs => by kernel_rfl) Tryz.func225 (fun cs => by kernel_rfl)
theorem err11 (w : World) : Calls Tryz.prog 225 #[.int .i64 11] w fun e w' => e = .returned (.string (errT 11)) ∧ w' = w :=
 mk_calls 78 (runE 11 w 78) (fun cs => by kernel_rfl) (fun cs => by kernel_rfl) (fun cs => by kernel_rfl) (fun cs => by kernel_rfl) (fun cs => by kernel_rfl) Tryz.func225 (fun cs => by kernel_rfl)
theorem err12 (w : World) : Calls Tryz.prog 225 #[.int .i64 12] w fun e w' => e = .returned (.string (errT 12)) ∧ w' = w :=
 mk_calls 78 (runE 12 w 78) (fun cs => by kernel_rfl) (fun cs => by kernel_rfl) (fun cs => by kernel_rfl) (fun cs => by kernel_rfl) (fun cs => by kernel_rfl) Tryz.func225 (fun cs => by kernel_rfl)
theorem err13 (w : World) : Calls Tryz.prog 225 #[.int .i64 13] w fun e w' => e = .returned (.string (errT 13)) ∧ w' = w :=
 mk_calls 78 (runE 13 w 78) (fun cs => by kernel_rfl) (fun cs => by kernel_rfl) (fun cs => by kernel_rfl) (fun cs => by kernel_rfl) (fun cs => by kernel_rfl) Tryz.func225 (fun cs => by kernel_rfl)
theorem err_calls {x : Int} (h : 0 < x ∧ x < 14) (w : World) : Calls Tryz.prog 225 #[.int .i64 x] w fun e w' => e = .returned (.string (errT x)) ∧ w' = w := by
 have : x = 1 ∨ x = 2 ∨ x = 3 ∨ x = 4 ∨ x = 5 ∨ x = 6 ∨ x = 7 ∨ x = 8 ∨ x = 9 ∨ x = 10 ∨ x = 11 ∨ x = 12 ∨ x = 13 := by omega
 rcases this with rfl | rfl | rfl | rfl | rfl | rfl | rfl | rfl | rfl | rfl | rfl | rfl | rfl
 ·exact err1 w
 ·exact err2 w
 ·exact err3 w
 ·exact err4 w
 ·exact err5 w
 ·exact err6 w
 ·exact err7 w
 ·exact err8 w
 ·exact err9 w
 ·exact err10 w
 ·exact err11 w
 ·exact err12 w
 ·exact err13 w
theorem err_size (x : Int) : (errT x).size ≤ 1000000 := by
 unfold errT
 split
 ·decide
 ·split <;> simp [ByteArray.size]
theorem itm_err {x : Int} (h : 0 ≤ x ∧ x < 14) (w : World) : Itm w (.iface 168 (.int .i64 x)) (errT x) := by
 by_cases h0 : x = 0
 ·rw [h0]
  exact .ok
 ·refine .e x _ h0 fun u _ => (err_calls (x := x) (by omega) u).mono ?_
  rintro e u' ⟨rfl, rfl⟩
  exact ⟨rfl, Ext.rfl' _⟩
end Go.Proofs.YtjcnjlaelhdjeaaGreatDoor
namespace Go.Proofs.YtjcnjlaelhdjeaaGreatDoor
open Go Go.Vc Go.RowKit Go.Proofs Go.Lin Go.Chk Go.Runs Go.Code Go.Que Go.Flw Go.Eng
set_option linter.unusedVariables false
set_option maxRecDepth 100000 in
theorem Line_meth {F : Nat → Prop} {w : World} {sh g s o t : Nat} {M : Sm} {occ : Value} {L : List (Option Lfe)} (h : EF F w g s o t M occ L) (hs : SHE w sh g) (line : ByteArray) (hl : line.size ≤ 4294967296) {c : ByteArray} {r : List ByteArray} (hw : wordsK line = c :: r)
  (i f : Nat) (hi : cmdN[i]? = some c) (hv : ∀ c1 c2 c3 c4 c5, (cmdV sh [c1, c2, c3, c4, c5])[i]? = some (methV f sh)) (hen : ∀ args w, (callFunc f args).run Tryz.prog w = .ok (.enter f args) w)
  (Q : ByteArray → World → Prop) (hst : ∀ tx u u', Q tx u → Mod (fun i => i = w.heap.size) u u' → Q tx u')
  (hcall : ∀ (u : World) (B ga : Nat), Ext w u → AG u B ga r → w.heap.size < ga → Calls Tryz.prog f #[.pointer (some ⟨sh, 0, none⟩), .pointer (some ⟨ga, 0, none⟩)] u fun e u' => u'.heap[w.heap.size]? = u.heap[w.heap.size]? ∧ ((∃ tx, e = .returned (.string tx) ∧ Q tx u') ∨ (e = odd ∧ Q (ByteArray.mk #[98, 97, 100]) u'))) :
  Calls Tryz.prog 14 #[.pointer (some ⟨sh, 0, none⟩), .string line] w fun e w' => ∃ tx, e = .returned (.string tx) ∧ Q tx w' := by
 refine Line_core line hl h hs Q hst ?_ ?_ ?_
 ·intro h1
  rw [hw] at h1
  cases h1
 ·intro c' r' h1 h2
  rw [hw] at h1
  cases h1
  exact absurd (List.mem_of_getElem? hi) h2
 ·intro c' r' i' h1 hi' u B ga c1 c2 c3 c4 c5 xu hag hga r1 r2 r3 r4 r5 hcB v hv'
  rw [hw] at h1
  cases h1
  have hi1 : i' = i := (List.getElem?_inj (i := i') (j := i) (List.getElem?_eq_some_iff.1 hi').1 cmdN_nodup).1 (hi'.trans hi.symm)
  subst hi1
  rw [hv] at hv'
  cases hv'
  exact ⟨f, #[.pointer (some ⟨sh, 0, none⟩)], #[], ⟨rfl, hen⟩, hcall u B ga xu hag hga⟩
def pEdit (ws : List ByteArray) : Option (Ce × Int) := match pVec ws with | none => none | some (c, r) => match pBlk r with | some (b, []) => some (c, b) | _ => none
set_option maxRecDepth 100000 in
theorem shEdit_spec {F : Nat → Prop} {w : World} {g s o t sh B ga : Nat} {M : Sm} {occ : Value} {L : List (Option Lfe)} {ws : List ByteArray} (h : EF F w g s o t M occ L) (hs : SHE w sh g) (ha : AG w B ga ws) (hF : ¬ F ga) (hsg : sh ≠ ga)
  {m : Int} (hL : okL m L) (hk : Sok M 800000) (R : Ending → World → Prop) (hbad : pEdit ws = none → ∀ u, Mod (fun i => i = ga) w u → R odd u)
  (hdo : ∀ c b, pEdit ws = some (c, b) → wideC c ∧ (0 ≤ (eeditE M L c b).1 ∧ (eeditE M L c b).1 < 14) ∧ ∀ u u' : World, Mod (fun i => i = ga) w u → ERes F u g s o t (eeditE M L c b).2 occ L u' → R (.returned (.string (errT (eeditE M L c b).1))) u') :
  Calls Tryz.prog n_lines_Shell_edit #[.pointer (some ⟨sh, 0, none⟩), .pointer (some ⟨ga, 0, none⟩)] w R := by
 apply lines_Shell_edit.vc
 unfold lines_Shell_edit.pre
 refine (cell_spec ha).mono ?_
 rintro e w0 ⟨m0, hp⟩
 cases hw : pVec ws with
 | none =>
   rw [hw] at hp
   subst hp
   exact hbad (by unfold pEdit; rw [hw]) _ m0
 | some x =>
   obtain ⟨⟨x, y, z⟩, r⟩ := x
   rw [hw] at hp
   obtain ⟨rfl, ha0⟩ := hp
   refine ⟨x, y, z, rfl, ?_⟩
   intro w4 e4 w5 e5
   have x4 : Ext w0 w4 := by rw [e4]; exact Ext.al _ _
   have z4 : w4.heap.size = w0.heap.size + 1 := by rw [e4]; simp
   have m5 := mod_set w4 w0.heap.size #[.int .i64 x, .int .i64 y, .int .i64 z]
   rw [← e5] at m5
   have x5 : Ext w0 w5 := m5.ext x4 (fun i hi => by omega)
   have z5 : w5.heap.size = w0.heap.size + 1 := by rw [e5]; simp [z4]
   have mw5 : Mod (fun i => i = ga) w w5 := m0.trans (Mod.of_ext x5)
   have hgl := ha0.lt
   have hle := ha0.le
   refine (blk_spec (ha0.ext x5)).mono ?_
   rintro e w6 ⟨m6, hp⟩
   have mw6 : Mod (fun i => i = ga) w w6 := mw5.trans m6
   have k6 : w6.heap[w0.heap.size]? = w5.heap[w0.heap.size]? := m6.same _ (by omega) (by omega)
   have z6 := m6.size
   cases hb : pBlk r with
   | none =>
     rw [hb] at hp
     subst hp
     exact hbad (by unfold pEdit; rw [hw]; simp only; rw [hb]) _ mw6
   | some q =>
     obtain ⟨b, r'⟩ := q
     rw [hb] at hp
     obtain ⟨rfl, ha6⟩ := hp
     refine ⟨b, rfl, k6, (end_spec ha6).mono ?_⟩
     rintro e w8 ⟨e8, he⟩
     rw [e8]
     by_cases hr : r' = []
     ·rw [if_pos hr] at he
      subst he
      subst hr
      have hpe : pEdit ws = some ((x, y, z), b) := by unfold pEdit; rw [hw]; simp only; rw [hb]
      obtain ⟨hc, hn, hR⟩ := hdo _ _ hpe
      have h6 : EF F w6 g s o t M occ L := h.same fun i hi => mw6.same i (h.lt hi) (fun q => hF (q ▸ hi))
      have hd := h6.ext (Ext.dr w6)
      have hsh : Row w6.drew sh [.pointer (some ⟨g, 0, none⟩)] tShell := (hs.row.same (mw6.same sh hs.row.lt hsg)).ext (Ext.dr w6)
      refine ⟨rfl, rfl, some ⟨g, 0, none⟩, by rw [padd_row, hsh.ld]; rfl, (eEdit_spec hd hL (x, y, z) hc b hk).mono ?_⟩
      rintro e w10 ⟨rfl, F', h10, ht⟩
      have hn0 : ∀ i, w.heap.size ≤ i → ¬ F i := fun i hi q => by have := h.lt q; omega
      have z0 := m0.size
      have k10 : w10.heap[w0.heap.size]? = w6.drew.heap[w0.heap.size]? := ht.mod.same _ (by show _ < w6.heap.size; omega) (hn0 _ z0)
      refine ⟨_, rfl, k10, ?_⟩
      intro w12 e12
      have x12 : Ext w10 w12 := by rw [e12]; exact Ext.al _ _
      refine (told_one e12 (itm_err hn w12) (err_size _)).mono ?_
      rintro _ w13 ⟨rfl, x13⟩
      have h1013 := x12.tr x13
      have hz10 : w6.heap.size ≤ w10.heap.size := ht.mod.size
      have z12 : w12.heap.size = w10.heap.size + 1 := by rw [e12]; simp
      refine ⟨_, rfl, x13.heap (by omega), ?_⟩
      exact hR w6.drew w13 (mw6.trans (Mod.of_ext (Ext.dr w6))) ⟨F', h10.ext h1013, ht.trans (Turned.of_ext h1013)⟩
     ·rw [if_neg hr] at he
      subst he
      refine hbad ?_ _ mw6
      unfold pEdit
      rw [hw]
      simp only
      rw [hb]
      cases r' with
      | nil => exact absurd rfl hr
      | cons a l => rfl
set_option maxRecDepth 100000 in
theorem Line_edit {F : Nat → Prop} {w : World} {sh g s o t : Nat} {M : Sm} {occ : Value} {L : List (Option Lfe)} (h : EF F w g s o t M occ L) (hs : SHE w sh g) (hF : ¬ F sh) {m : Int} (hL : okL m L) (hk : Sok M 800000)
  (line : ByteArray) (hl : line.size ≤ 4294967296) (r : List ByteArray) (hw : wordsK line = ByteArray.mk #[101, 100, 105, 116] :: r) (c : Ce) (b : Int) (hp : pEdit r = some (c, b)) (hc : wideC c) (hn : 0 ≤ (eeditE M L c b).1 ∧ (eeditE M L c b).1 < 14) :
  Calls Tryz.prog 14 #[.pointer (some ⟨sh, 0, none⟩), .string line] w fun e w' => ∃ tx, e = .returned (.string tx) ∧ tx = errT (eeditE M L c b).1 ∧ ∃ F', SH w F w' sh g s o t (eeditE M L c b).2 occ L F' ∧ ¬ F' w.heap.size := by
 have hsl := hs.row.lt
 have nw : ¬ F w.heap.size := fun q => by have := h.lt q; omega
 refine Line_meth h hs line hl hw 14 101 rfl (fun _ _ _ _ _ => rfl) (fun args w => enter_of Tryz.func101 (by kernel_rfl) rfl args w) (fun tx u => tx = errT (eeditE M L c b).1 ∧ ∃ F', SH w F u sh g s o t (eeditE M L c b).2 occ L F' ∧ ¬ F' w.heap.size) ?_ ?_
 ·rintro tx u u' ⟨rfl, F', hS, hn⟩ hm
  exact ⟨rfl, F', hS.put hn (by omega) (Nat.le_refl _) hm, hn⟩
 ·intro u B ga xu hag hga
  have hgl := hag.lt
  have hle := hag.le
  have hFga : ¬ F ga := fun q => by have := h.lt q; omega
  have hwu : w.heap.size ≤ u.heap.size := xu.size
  show Calls Tryz.prog n_lines_Shell_edit #[.pointer (some ⟨sh, 0, none⟩), .pointer (some ⟨ga, 0, none⟩)] u _
  refine shEdit_spec (h.ext xu) ⟨hs.row.ext xu⟩ hag hFga (by omega) hL hk _ ?_ ?_
  ·intro hno
   rw [hp] at hno
   cases hno
  ·intro c2 b2 hp'
   rw [hp] at hp'
   cases hp'
   refine ⟨hc, hn, fun u1 u2 hm hres => ?_⟩
   obtain ⟨F', h2, ht⟩ := hres
   have hm1 : Mod (fun i => i = ga) w u1 := (Mod.of_ext xu).tr hm (fun i hi => .inl hi)
   have hwv : Mod F w u2 := ((Mod.of_ext xu).tr hm (fun i hi => .inr (by omega))).trans ht.mod
   have sub : ∀ i, F' i → F i ∨ u1.heap.size ≤ i := ht.sub
   have hz := hm.size
   refine ⟨(ht.mod.same _ (by omega) nw).trans (hm.same _ (by omega) (by omega)), .inl ⟨_, rfl, rfl, F', ⟨h2, ⟨hs.row.same (hwv.same sh hsl hF)⟩, fun q => (sub _ q).elim hF (fun q => by omega), hwv, fun i hi => (sub i hi).imp id (fun q => by omega)⟩, fun q => (sub _ q).elim nw (fun q => by omega)⟩⟩
end Go.Proofs.YtjcnjlaelhdjeaaGreatDoor
namespace Go.Proofs.YtjcnjlaelhdjeaaGreatDoor
open Go Go.Vc Go.RowKit Go.Proofs Go.Lin Go.Chk Go.Runs Go.Code Go.Que Go.Flw Go.Eng
set_option linter.unusedVariables false
theorem one_any (x : Value) (t : TypeId) : One [Value.iface t x] := by intro v hv; simp at hv; subst hv; rfl
theorem itm_small {n : Nat} (h : n < 100) (w : World) : Itm w (.iface 3 (.int .i64 n)) ⟨(Lib.decDigits n).toArray⟩ :=
 .n _ _ fun u _ => (Tryz.strconv_Itoa_small n h u).mono fun e u' hh => ⟨hh.1, hh.2 ▸ Ext.rfl' _⟩
set_option maxRecDepth 100000 in
theorem shBody_none {F : Nat → Prop} {w : World} {g s o t sh B ga : Nat} {M : Sm} {occ : Value} {L : List (Option Lfe)} {ws : List ByteArray} (h : EF F w g s o t M occ L) (hs : SHE w sh g) (ha : AG w B ga ws) (hF : ¬ F ga) (hsg : sh ≠ ga)
  {n : Int} (hp : pNum ws = some (n, [])) (hn : (bodyE L n).2 = false) :
  Calls Tryz.prog n_lines_Shell_body #[.pointer (some ⟨sh, 0, none⟩), .pointer (some ⟨ga, 0, none⟩)] w fun e w' => e = .returned (.string (ByteArray.mk #[110, 111, 110, 101])) ∧ Mod (fun i => i = ga) w w' := by
 apply lines_Shell_body.vc
 unfold lines_Shell_body.pre
 refine (num_spec ha).mono ?_
 rintro e w0 ⟨m0, hq⟩
 rw [hp] at hq
 obtain ⟨rfl, ha0⟩ := hq
 refine ⟨n, rfl, (end_spec ha0).mono ?_⟩
 rintro e w2 ⟨e2, he⟩
 rw [if_pos rfl] at he
 subst he
 rw [e2]
 have h0 : EF F w0 g s o t M occ L := h.same fun i hi => m0.same i (h.lt hi) (fun q => hF (q ▸ hi))
 have hsh : Row w0 sh [.pointer (some ⟨g, 0, none⟩)] tShell := hs.row.same (m0.same sh hs.row.lt hsg)
 refine ⟨rfl, some ⟨g, 0, none⟩, by rw [padd_row, hsh.ld]; rfl, (Body_spec h0 n).mono ?_⟩
 rintro _ w4 ⟨rfl, x4⟩
 refine ⟨_, _, _, _, _, _, _, _, _, _, rfl, ?_⟩
 intro w15 e15 w16 e16
 have x15 : Ext w4 w15 := by rw [e15]; exact Ext.al _ _
 have m16 := mod_set w15 w4.heap.size #[.int .i64 (bodyE L n).1.foot.1, .int .i64 (bodyE L n).1.foot.2.1, .int .i64 (bodyE L n).1.foot.2.2, .int .i64 (bodyE L n).1.speed.1, .int .i64 (bodyE L n).1.speed.2.1, .int .i64 (bodyE L n).1.speed.2.2, .int .i64 (bodyE L n).1.wd, .int .i64 (bodyE L n).1.ht, .bool (bodyE L n).1.stands]
 rw [← e16] at m16
 have x16 : Ext w4 w16 := m16.ext x15 (fun i hi => by omega)
 refine yes (by rw [hn]; rfl) ?_
 intro w17 e17
 have x17 : Ext w16 w17 := by rw [e17]; exact Ext.al _ _
 have z17 : w17.heap.size = w16.heap.size + 1 := by rw [e17]; simp
 have z16 := x16.size
 refine (told_one e17 (.s _) (by decide)).mono ?_
 rintro _ w18 ⟨rfl, x18⟩
 exact ⟨_, rfl, x18.heap (by omega), rfl, m0.trans (Mod.of_ext (x4.tr (x16.tr (x17.tr x18))))⟩
def liveT (L : List (Option Lfe)) : ByteArray := joinK ((liveK L).map fun n => ⟨(Lib.decDigits n.toNat).toArray⟩)
theorem live_small {L : List (Option Lfe)} {n : Int} (h : n ∈ liveK L) : 0 ≤ n ∧ n < 16 := by
 unfold liveK at h
 obtain ⟨i, hi, rfl⟩ := List.mem_map.1 h
 have := (List.mem_filter.1 hi).1
 rw [List.mem_range] at this
 omega
theorem live_len (L : List (Option Lfe)) : (liveK L).length ≤ 16 := by
 unfold liveK
 rw [List.length_map]
 refine Nat.le_trans (List.length_filter_le _ _) ?_
 rw [List.length_range]
 exact Nat.le_refl _
theorem dec_short {n : Nat} (h : n < 100) : (ByteArray.mk (Lib.decDigits n).toArray).size ≤ 1000000 := by
 have : ∀ n : Fin 100, (ByteArray.mk (Lib.decDigits n.val).toArray).size ≤ 1000000 := by decide +kernel
 exact this ⟨n, h⟩
set_option maxRecDepth 100000 in
theorem shLive_spec {F : Nat → Prop} {w : World} {g s o t sh B ga : Nat} {M : Sm} {occ : Value} {L : List (Option Lfe)} (h : EF F w g s o t M occ L) (hs : SHE w sh g) (ha : AG w B ga []) :
  Calls Tryz.prog n_lines_Shell_live #[.pointer (some ⟨sh, 0, none⟩), .pointer (some ⟨ga, 0, none⟩)] w fun e w' => e = .returned (.string (liveT L)) ∧ Ext w w' := by
 apply lines_Shell_live.vc
 unfold lines_Shell_live.pre
 refine (end_spec ha).mono ?_
 rintro e w0 ⟨e0, he⟩
 rw [e0]
 rw [if_pos rfl] at he
 subst he
 refine ⟨rfl, some ⟨g, 0, none⟩, by rw [padd_row, hs.row.ld]; rfl, (Live_spec h).mono ?_⟩
 rintro _ w2 ⟨s3, rfl, ho, x2⟩
 refine ⟨s3, rfl, ?_⟩
 have hrd := ho.rd (by decide)
 have hn : s3.n = (liveK L).length := by rw [hrd.n, List.length_map]
 have hln := live_len L
 refine ⟨fun n x sl v => ∃ p : Nat, x = (p : Int) ∧ p + n = s3.n ∧ OwnK w2.heap.size 20 1 v sl (((liveK L).take p).map fun n => [.iface 3 (.int .i64 n)]) ∧ Ext w2 v, ⟨s3.n, 0, rfl, by omega, OwnK.nil, Ext.rfl' _⟩, ?_⟩
 rintro n1 us x sl v ⟨p, rfl, hp, hos, xv⟩
 have hpl : ((liveK L).take p).length = p := by rw [List.length_take]; omega
 have h4 : sl.n = p := by rw [(OwnK.rd hos (by decide)).n, List.length_map, hpl]
 refine Br.mk (fun c => ?_) (fun c => ?_)
 ·have c := of_decide_eq_true c
  have hpx : p < (liveK L).length := by omega
  obtain ⟨y, hy⟩ : ∃ y, (liveK L)[p]? = some y := ⟨_, List.getElem?_eq_getElem hpx⟩
  have hld : ld v (padd s3.a (((p : Nat) : Int).toNat * 1)) = some (.int .i64 y) := by
   have := xv.ld (hrd.rd p [.int .i64 y] (by rw [List.getElem?_map, hy]; rfl) 0 _ rfl)
   simpa using this
  refine ⟨hrd.inB (by decide) (by omega) (by omega), y, hld, fun w12 e12 => ?_⟩
  subst e12
  obtain ⟨a1, a2⟩ := hos.app1 (bytes := 16) (news := [.iface 3 (.int .i64 y)]) (.cells #[.iface 3 (.int .i64 y)] 20) xv.size rfl (one_any _ _) (by omega) (by omega)
  refine ⟨a1, fun s13 w14 hres => ?_⟩
  obtain ⟨b1, b2, b3, b4, -⟩ := a2 s13 w14 hres
  refine ⟨b1, n1 - 1, by omega, p + 1, by rw [wrap_in (by unfold inI; omega)]; omega, by omega, ?_, Below.trans xv b4⟩
  rw [List.take_add_one, hy, List.map_append]
  exact b2
 ·have c := of_decide_eq_false c
  have hpe : p = (liveK L).length := by omega
  rw [List.take_of_length_le (by omega)] at hos
  have hrs := OwnK.rd hos (by decide)
  have hrs : RdK v ⟨sl.a, sl.n, sl.c⟩ 1 (((liveK L).map fun n => Value.iface 3 (.int .i64 n)).map fun x => [x]) := by rw [List.map_map]; exact hrs
  have hj : ∀ l : List Int, (∀ n ∈ l, 0 ≤ n ∧ n < 16) → (Lib.join ((l.map fun n => ByteArray.mk (Lib.decDigits n.toNat).toArray).map (·.data.toList)) [32]).length ≤ l.length * 1000001 := by
   intro l
   induction l with
   | nil => intro _; exact Nat.zero_le _
   | cons a l ih =>
     intro hl
     have i1 := ih fun x hx => hl x (List.mem_cons_of_mem _ hx)
     have i2 := dec_short (n := a.toNat) (by have := hl a (List.mem_cons_self ..); omega)
     have i2 : (Lib.decDigits a.toNat).length ≤ 1000000 := i2
     cases l with
     | nil => simp [Lib.join, List.intercalate] at i2 ⊢; omega
     | cons t2 l2 =>
       simp only [List.map_cons, Lib.join, List.intercalate, List.intersperse, List.flatten_cons, List.length_append, List.length_cons, List.length_nil] at i1 i2 ⊢
       omega
  refine (told_spec (w := v) (sl := ⟨sl.a, sl.n, sl.c⟩) (xs := (liveK L).map fun n => Value.iface 3 (.int .i64 n)) (outs := (liveK L).map fun n => ⟨(Lib.decDigits n.toNat).toArray⟩) hrs (by rw [List.length_map, List.length_map]) (by rw [List.length_map]; omega) ?_ ?_).mono ?_
  ·intro i y tt hy ht
   rw [List.getElem?_map] at hy ht
   obtain ⟨k, hk, rfl⟩ := Option.map_eq_some_iff.1 hy
   rw [hk] at ht
   cases ht
   have hk16 := live_small (List.mem_of_getElem? hk)
   have := itm_small (n := k.toNat) (by omega) v
   rw [show ((k.toNat : Nat) : Int) = k by omega] at this
   exact this
  ·have := hj (liveK L) fun n hn => live_small hn
   omega
  ·rintro _ w15 ⟨rfl, x15⟩
   exact ⟨_, rfl, rfl, x2.tr (xv.tr x15)⟩
end Go.Proofs.YtjcnjlaelhdjeaaGreatDoor
namespace Go.Proofs.YtjcnjlaelhdjeaaGreatDoor
open Go Go.Vc Go.RowKit Go.Proofs Go.Lin Go.Chk Go.Runs Go.Code Go.Que Go.Flw Go.Eng
set_option linter.unusedVariables false
theorem join_bound : ∀ l : List ByteArray, (∀ t ∈ l, t.size ≤ 1000000) → (Lib.join (l.map (·.data.toList)) [32]).length ≤ l.length * 1000001
 | [], _ => Nat.zero_le _
 | t :: l, h => by
   have i1 := join_bound l fun x hx => h x (List.mem_cons_of_mem _ hx)
   have i2 : t.data.toList.length ≤ 1000000 := by have := h t (List.mem_cons_self ..); have e := bl_len t; unfold bl at e; omega
   cases l with
   | nil => simp [Lib.join, List.intercalate] at i2 ⊢; omega
   | cons t2 l2 =>
     simp only [List.map_cons, Lib.join, List.intercalate, List.intersperse, List.flatten_cons, List.length_append, List.length_cons, List.length_nil] at i1 i2 ⊢
     omega
theorem told_list {w : World} {sl : Sl} {xs : List Value} {txs : List ByteArray} (h : RdK w sl 1 (xs.map fun x => [x])) (hl : txs.length = xs.length) (hn : xs.length ≤ 1000) (hit : ∀ (i : Nat) x t, xs[i]? = some x → txs[i]? = some t → Itm w x t) (hsz : ∀ t ∈ txs, t.size ≤ 1000000) :
  Calls Tryz.prog n_lines_told #[.slice sl.a sl.n sl.c] w fun e w' => e = .returned (.string (joinK txs)) ∧ Ext w w' := by
 refine told_spec (w := w) (sl := sl) (xs := xs) (outs := txs) h hl (Nat.le_trans hn (by decide)) hit ?_
 have hk := join_bound txs hsz
 omega
def hereV (l : List En) : List Value := (l.map fun e => [Value.iface 3 (.int .i64 e.1.1), Value.iface 3 (.int .i64 e.1.2)]).flatten
def hereT (it : Int → ByteArray) (l : List En) : List ByteArray := (l.map fun e => [it e.1.1, it e.1.2]).flatten
theorem here_len (l : List En) : (hereV l).length = 2 * l.length := by
 unfold hereV
 induction l with
 | nil => rfl
 | cons a l ih => rw [List.map_cons, List.flatten_cons, List.length_append, ih]; simp; omega
theorem hereT_len (it : Int → ByteArray) (l : List En) : (hereT it l).length = 2 * l.length := by
 unfold hereT
 induction l with
 | nil => rfl
 | cons a l ih => rw [List.map_cons, List.flatten_cons, List.length_append, ih]; simp; omega
theorem here_itm {w : World} {it : Int → ByteArray} : ∀ (l : List En), (∀ e ∈ l, Itm w (.iface 3 (.int .i64 e.1.1)) (it e.1.1) ∧ Itm w (.iface 3 (.int .i64 e.1.2)) (it e.1.2)) → ∀ (i : Nat) x t, (hereV l)[i]? = some x → (hereT it l)[i]? = some t → Itm w x t
 | [], _, i, x, t, hx, _ => by simp [hereV] at hx
 | a :: l, h, i, x, t, hx, ht => by
   have h0 := h a (List.mem_cons_self ..)
   have ih := here_itm l fun e he => h e (List.mem_cons_of_mem _ he)
   have e1 : hereV (a :: l) = Value.iface 3 (.int .i64 a.1.1) :: Value.iface 3 (.int .i64 a.1.2) :: hereV l := rfl
   have e2 : hereT it (a :: l) = it a.1.1 :: it a.1.2 :: hereT it l := rfl
   rw [e1] at hx
   rw [e2] at ht
   match i with
   | 0 => simp at hx ht; subst hx; subst ht; exact h0.1
   | 1 => simp at hx ht; subst hx; subst ht; exact h0.2
   | i + 2 => simp at hx ht; exact ih i x t hx ht
set_option maxRecDepth 100000 in
theorem shHere_spec {F : Nat → Prop} {w : World} {g s o t sh B ga : Nat} {M : Sm} {occ : Value} {L : List (Option Lfe)} (h : EF F w g s o t M occ L) (hs : SHE w sh g) (ha : AG w B ga []) {it : Int → ByteArray}
  (hit : ∀ u, Ext w u → ∀ e ∈ M.T.2, Itm u (.iface 3 (.int .i64 e.1.1)) (it e.1.1) ∧ Itm u (.iface 3 (.int .i64 e.1.2)) (it e.1.2)) (hn : M.T.2.length ≤ 400) (hsz : ∀ n, (it n).size ≤ 1000000) :
  Calls Tryz.prog n_lines_Shell_here #[.pointer (some ⟨sh, 0, none⟩), .pointer (some ⟨ga, 0, none⟩)] w fun e w' => e = .returned (.string (joinK (hereT it M.T.2))) ∧ Ext w w' := by
 apply lines_Shell_here.vc
 unfold lines_Shell_here.pre
 refine (end_spec ha).mono ?_
 rintro e w0 ⟨e0, he⟩
 rw [e0]
 rw [if_pos rfl] at he
 subst he
 obtain ⟨Fs, hS, hpp, -, -⟩ := h.sim
 obtain ⟨Fw, hW, -, -⟩ := hS.world
 refine ⟨rfl, some ⟨g, 0, none⟩, by rw [padd_row, hs.row.ld]; rfl, AndL_nn.2 ⟨rfl, AndL_nn.2 ⟨rfl, some ⟨s, 0, none⟩, hpp, (sWorld_spec hS).mono ?_⟩⟩⟩
 rintro _ w3 ⟨rfl, e3⟩
 rw [e3]
 refine ⟨_, rfl, (wTable_spec hW).mono ?_⟩
 rintro _ w5 ⟨rfl, e5⟩
 rw [e5]
 obtain ⟨Ft, hT, -⟩ := hW.table
 refine ⟨_, rfl, (tfHere_spec hT).mono ?_⟩
 rintro _ w7 ⟨s8, rfl, ho, x7⟩
 refine ⟨s8, rfl, ?_⟩
 have hrd := ho.rd (by decide)
 have hn8 : s8.n = M.T.2.length := by rw [hrd.n, List.length_map]
 refine ⟨fun n x sl v => ∃ p : Nat, x = (p : Int) ∧ p + n = s8.n ∧ OwnK w7.heap.size 20 1 v sl ((hereV (M.T.2.take p)).map fun x => [x]) ∧ Ext w7 v, ⟨s8.n, 0, rfl, by omega, OwnK.nil, Ext.rfl' _⟩, ?_⟩
 rintro n1 us x sl v ⟨p, rfl, hp, hos, xv⟩
 have hpl : (M.T.2.take p).length = p := by rw [List.length_take]; omega
 have h4 : sl.n = 2 * p := by rw [(OwnK.rd hos (by decide)).n, List.length_map, here_len, hpl]
 refine Br.mk (fun c => ?_) (fun c => ?_)
 ·have c := of_decide_eq_true c
  have hpx : p < M.T.2.length := by omega
  obtain ⟨y, hy⟩ : ∃ y, M.T.2[p]? = some y := ⟨_, List.getElem?_eq_getElem hpx⟩
  have hld : LoadL v (padd s8.a (((p : Nat) : Int).toNat * 2)) 0 [.int .i64 y.1.1, .int .i64 y.1.2] := by
   have := (hrd.ext xv).loadL (i := p) (r := [.int .i64 y.1.1, .int .i64 y.1.2]) (by rw [List.getElem?_map, hy]; rfl)
   simpa using this
  refine ⟨hrd.inB (by decide) (by omega) (by omega), _, _, hld, fun w18 e18 w19 e19 w20 e20 => ?_⟩
  have x18 : Ext v w18 := by rw [e18]; exact Ext.al _ _
  have m19 := mod_set w18 v.heap.size #[.int .i64 y.1.1, .int .i64 y.1.2]
  rw [← e19] at m19
  have x19 : Ext v w19 := m19.ext x18 (fun i hi => by omega)
  have x20 : Ext w19 w20 := by rw [e20]; exact Ext.al _ _
  have z20 : w20.heap.size = w19.heap.size + 1 := by rw [e20]; simp
  have z19 := x19.size
  have zv := xv.size
  obtain ⟨a1, a2⟩ := (hos.ext (x19.tr x20)).appN (bytes := 16) (more := [[.iface 3 (.int .i64 y.1.1)], [.iface 3 (.int .i64 y.1.2)]]) (by omega) (fun r hr => by simp at hr; rcases hr with rfl | rfl <;> rfl) (fun r hr => by simp at hr; rcases hr with rfl | rfl <;> exact one_any _ _) (by simp; omega) (by simp; omega)
  refine ⟨a1, fun s21 w22 hres => ?_⟩
  obtain ⟨b1, b2, b3, b4, -⟩ := a2 s21 w22 hres
  have xw := (xv.tr x19).tr x20
  have keep : ∀ j, v.heap.size ≤ j → j < w20.heap.size → w22.heap[j]? = w20.heap[j]? := fun j h1 h2 => b4 j (fun q => by have := (hos.own.lt q).2; omega) h2
  refine ⟨keep _ (by omega) (by omega), keep _ (by omega) (by omega), n1 - 1, by omega, p + 1, by rw [wrap_in (by unfold inI; omega)]; omega, by omega, ?_, Below.trans xw b3⟩
  ·rw [List.take_add_one, hy]
   have e : hereV (M.T.2.take p ++ [y]) = hereV (M.T.2.take p) ++ [.iface 3 (.int .i64 y.1.1), .iface 3 (.int .i64 y.1.2)] := by unfold hereV; rw [List.map_append, List.flatten_append]; rfl
   show OwnK _ _ _ _ _ ((hereV (M.T.2.take p ++ [y])).map _)
   rw [e, List.map_append]
   exact b1
 ·have c := of_decide_eq_false c
  have hpe : p = M.T.2.length := by omega
  rw [List.take_of_length_le (by omega)] at hos
  have hrs := OwnK.rd hos (by decide)
  refine (told_list (sl := ⟨sl.a, sl.n, sl.c⟩) (txs := hereT it M.T.2) hrs (by rw [hereT_len, here_len]) (by rw [here_len]; omega) (here_itm _ (hit v (x7.tr xv))) (fun tt ht => ?_)).mono ?_
  ·unfold hereT at ht
   obtain ⟨l, hl, ht⟩ := List.mem_flatten.1 ht
   obtain ⟨e, -, rfl⟩ := List.mem_map.1 hl
   simp at ht
   rcases ht with rfl | rfl <;> exact hsz _
  ·rintro _ w15 ⟨rfl, x15⟩
   exact ⟨_, rfl, rfl, x7.tr (xv.tr x15)⟩
end Go.Proofs.YtjcnjlaelhdjeaaGreatDoor
namespace Go.Proofs.YtjcnjlaelhdjeaaGreatDoor
open Go Go.Vc Go.RowKit Go.Proofs Go.Lin Go.Chk Go.Runs Go.Code Go.Que Go.Flw Go.Eng
set_option linter.unusedVariables false
def Now (w0 : World) (sh : Nat) (M : Sm) (occ : Value) (L : List (Option Lfe)) (u : World) : Prop :=
 Ext w0 u ∧ ∃ (g s o t : Nat) (F : Nat → Prop), EF F u g s o t M occ L ∧ SHE u sh g ∧ ¬ F sh ∧ w0.heap.size ≤ sh ∧ ∀ i, F i → w0.heap.size ≤ i
section
variable {w0 u u' : World} {sh : Nat} {M : Sm} {occ : Value} {L : List (Option Lfe)}
theorem Now.ext (h : Now w0 sh M occ L u) (x : Ext u u') : Now w0 sh M occ L u' := by
 obtain ⟨h1, g, s, o, t, F, h2, h3, h4, h5, h6⟩ := h
 exact ⟨h1.tr x, g, s, o, t, F, h2.ext x, ⟨h3.row.ext x⟩, h4, h5, h6⟩
theorem Now.of_SH {F F' : Nat → Prop} {g s o t : Nat} {M' : Sm} {occ' : Value} {L' : List (Option Lfe)} (hx : Ext w0 u) (h5 : w0.heap.size ≤ sh) (h6 : ∀ i, F i → w0.heap.size ≤ i) (hS : SH u F u' sh g s o t M' occ' L' F') : Now w0 sh M' occ' L' u' :=
 ⟨hS.m.ext hx h6, g, s, o, t, F', hS.e, hS.r, hS.n, h5, fun i hi => (hS.f i hi).elim (h6 i) (fun q => by have := hx.size; omega)⟩
theorem Now_new (w : World) : Calls Tryz.prog n_lines_New #[] w fun e w' => ∃ sh, e = .returned (.pointer (some ⟨sh, 0, none⟩)) ∧ Now w sh (M0e 1 9 200000 16) occ0 noL w' := by
 refine (shNew_spec w).mono ?_
 rintro e w' ⟨sh, g, s, o, t, F, rfl, h1, h2, h3, h4, h5, h6⟩
 exact ⟨sh, rfl, h4, g, s, o, t, F, h1, h2, h3, h6, h5⟩
theorem Now_load (h : Now w0 sh M occ L u) (hW : M.T.1.l.length ≤ 1000000) (line : ByteArray) (hl : line.size ≤ 4294967296) {r : List ByteArray} (hw : wordsK line = ByteArray.mk #[108, 111, 97, 100] :: r) {p : Po} (hp : pPos r = some (p, [])) (h0 : (ldE M.seed M.cap M.T.1 M.T.2 p).2 = 0) :
  Calls Tryz.prog 14 #[.pointer (some ⟨sh, 0, none⟩), .string line] u fun e w' => e = .returned (.string (ByteArray.mk #[111, 107])) ∧ Now w0 sh { M with T := (ldE M.seed M.cap M.T.1 M.T.2 p).1 } occ L w' := by
 obtain ⟨hx, g, s, o, t, F, h2, h3, h4, h5, h6⟩ := h
 refine (Line_load h2 h3 h4 hW line hl r hw p hp h0).mono ?_
 rintro e w' ⟨tx, rfl, rfl, F', hS, -⟩
 exact ⟨rfl, Now.of_SH hx h5 h6 hS⟩
theorem Now_at (h : Now w0 sh M occ L u) (line : ByteArray) (hl : line.size ≤ 4294967296) {r : List ByteArray} (hw : wordsK line = ByteArray.mk #[97, 116] :: r) {c : Ce} (hp : pVec r = some (c, [])) (hc : okC c) :
  Calls Tryz.prog 14 #[.pointer (some ⟨sh, 0, none⟩), .string line] u fun e w' => e = .returned (.string (cellT (atE M.T.2 c))) ∧ Now w0 sh M occ L w' := by
 obtain ⟨hx, g, s, o, t, F, h2, h3, h4, h5, h6⟩ := h
 refine (Line_at h2 h3 h4 name_size line hl r hw c hp hc).mono ?_
 rintro e w' ⟨tx, he, ht, hS⟩
 rw [ht] at he
 exact ⟨he, Now.of_SH hx h5 h6 hS⟩
theorem Now_edit (h : Now w0 sh M occ L u) {m : Int} (hL : okL m L) (hk : Sok M 800000) (line : ByteArray) (hl : line.size ≤ 4294967296) {r : List ByteArray} (hw : wordsK line = ByteArray.mk #[101, 100, 105, 116] :: r) {c : Ce} {b : Int} (hp : pEdit r = some (c, b)) (hc : wideC c) (hn : 0 ≤ (eeditE M L c b).1 ∧ (eeditE M L c b).1 < 14) :
  Calls Tryz.prog 14 #[.pointer (some ⟨sh, 0, none⟩), .string line] u fun e w' => e = .returned (.string (errT (eeditE M L c b).1)) ∧ Now w0 sh (eeditE M L c b).2 occ L w' := by
 obtain ⟨hx, g, s, o, t, F, h2, h3, h4, h5, h6⟩ := h
 refine (Line_edit h2 h3 h4 hL hk line hl r hw c b hp hc hn).mono ?_
 rintro e w' ⟨tx, he, ht, F', hS, -⟩
 rw [ht] at he
 exact ⟨he, Now.of_SH hx h5 h6 hS⟩
theorem Now_tell (h : Now w0 sh M occ L u) (line : ByteArray) (hl : line.size ≤ 4294967296) {c tx : ByteArray} {r : List ByteArray} (hw : wordsK line = c :: r) (i f : Nat) (hi : cmdN[i]? = some c) (hv : ∀ c1 c2 c3 c4 c5, (cmdV sh [c1, c2, c3, c4, c5])[i]? = some (methV f sh)) (hen : ∀ args w, (callFunc f args).run Tryz.prog w = .ok (.enter f args) w)
  (hcall : ∀ {g s o t : Nat} {F : Nat → Prop} (v : World) (B ga : Nat), Ext u v → EF F v g s o t M occ L → SHE v sh g → AG v B ga r → ¬ F ga → sh ≠ ga → Calls Tryz.prog f #[.pointer (some ⟨sh, 0, none⟩), .pointer (some ⟨ga, 0, none⟩)] v fun e v' => e = .returned (.string tx) ∧ Mod (fun i => i = ga) v v') :
  Calls Tryz.prog 14 #[.pointer (some ⟨sh, 0, none⟩), .string line] u fun e w' => e = .returned (.string tx) ∧ Now w0 sh M occ L w' := by
 obtain ⟨hx, g, s, o, t, F, h2, h3, h4, h5, h6⟩ := h
 have nw : ¬ F u.heap.size := fun q => by have := h2.lt q; omega
 have hsl := h3.row.lt
 refine (Line_meth h2 h3 line hl hw i f hi hv hen (fun t' v => t' = tx ∧ SH u F v sh g s o t M occ L F) ?_ ?_).mono ?_
 ·rintro t' v v' ⟨rfl, hS⟩ hm
  exact ⟨rfl, hS.put nw (by omega) (Nat.le_refl _) hm⟩
 ·intro v B ga xv hag hga
  have hgl := hag.lt
  have hle := hag.le
  have hFga : ¬ F ga := fun q => by have := h2.lt q; omega
  refine (hcall v B ga xv (h2.ext xv) ⟨h3.row.ext xv⟩ hag hFga (by omega)).mono ?_
  rintro e v' ⟨rfl, hm⟩
  have hwv : Mod F u v' := (Mod.of_ext xv).tr hm (fun i hi => .inr (by have := xv.size; omega))
  have hz := xv.size
  exact ⟨hm.same _ (by omega) (by omega), .inl ⟨_, rfl, rfl, (h2.ext xv).same fun i hi => hm.same i (by have := h2.lt hi; omega) (fun q => hFga (q ▸ hi)), ⟨h3.row.same (hwv.same sh hsl h4)⟩, h4, hwv, fun i hi => .inl hi⟩⟩
 ·rintro e w' ⟨t', rfl, rfl, hS⟩
  exact ⟨rfl, Now.of_SH hx h5 h6 hS⟩
theorem Now_body (h : Now w0 sh M occ L u) (line : ByteArray) (hl : line.size ≤ 4294967296) {r : List ByteArray} (hw : wordsK line = ByteArray.mk #[98, 111, 100, 121] :: r) {n : Int} (hp : pNum r = some (n, [])) (hn : (bodyE L n).2 = false) :
  Calls Tryz.prog 14 #[.pointer (some ⟨sh, 0, none⟩), .string line] u fun e w' => e = .returned (.string (ByteArray.mk #[110, 111, 110, 101])) ∧ Now w0 sh M occ L w' :=
 Now_tell h line hl hw 19 106 rfl (fun _ _ _ _ _ => rfl) (fun args w => enter_of Tryz.func106 (by kernel_rfl) rfl args w) fun v B ga xv hE hS ha hF hne => shBody_none hE hS ha hF hne hp hn
theorem Now_live (h : Now w0 sh M occ L u) (line : ByteArray) (hl : line.size ≤ 4294967296) (hw : wordsK line = [ByteArray.mk #[108, 105, 118, 101]]) :
  Calls Tryz.prog 14 #[.pointer (some ⟨sh, 0, none⟩), .string line] u fun e w' => e = .returned (.string (liveT L)) ∧ Now w0 sh M occ L w' :=
 Now_tell h line hl hw 20 107 rfl (fun _ _ _ _ _ => rfl) (fun args w => enter_of Tryz.func107 (by kernel_rfl) rfl args w) fun v B ga xv hE hS ha hF hne => (shLive_spec hE hS ha).mono fun e v' hh => ⟨hh.1, Mod.of_ext hh.2⟩
theorem Now_here (h : Now w0 sh M occ L u) (line : ByteArray) (hl : line.size ≤ 4294967296) (hw : wordsK line = [ByteArray.mk #[104, 101, 114, 101]]) {it : Int → ByteArray}
  (hit : ∀ v, Ext w0 v → ∀ e ∈ M.T.2, Itm v (.iface 3 (.int .i64 e.1.1)) (it e.1.1) ∧ Itm v (.iface 3 (.int .i64 e.1.2)) (it e.1.2)) (hn : M.T.2.length ≤ 400) (hsz : ∀ n, (it n).size ≤ 1000000) :
  Calls Tryz.prog 14 #[.pointer (some ⟨sh, 0, none⟩), .string line] u fun e w' => e = .returned (.string (joinK (hereT it M.T.2))) ∧ Now w0 sh M occ L w' :=
 Now_tell h line hl hw 21 108 rfl (fun _ _ _ _ _ => rfl) (fun args w => enter_of Tryz.func108 (by kernel_rfl) rfl args w) fun v B ga xv hE hS ha hF hne => (shHere_spec hE hS ha (fun x hx => hit x (h.1.tr (xv.tr hx))) hn hsz).mono fun e v' hh => ⟨hh.1, Mod.of_ext hh.2⟩
end
end Go.Proofs.YtjcnjlaelhdjeaaGreatDoor
namespace Go.Proofs.YtjcnjlaelhdjeaaGreatDoor
open Go Go.Vc Go.RowKit Go.Proofs
set_option maxRecDepth 100000
set_option maxHeartbeats 8000000
set_option linter.unusedVariables false
abbrev n_law22_abs : FuncId := 34
abbrev n_law22_LinesTells : FuncId := 7
def law22_abs.pre (a0 : Int) (w : World) (R : Ending → World → Prop) : Prop :=
 Br (decide ((a0 : Int) < 0))
 (R (.returned (.int .i64 (IntKind.wrap .i64 (0 - (IntKind.wrap .i64 (a0 + 1)))))) w)
 (R (.returned (.int .i64 a0)) w)
theorem law22_abs.vc {a0 w} {R : Ending → World → Prop} (h : law22_abs.pre a0 w R) : Calls Tryz.prog n_law22_abs #[.int .i64 a0] w R :=
 calls_of_eq (an := ⟨[], [], []⟩) (args := [.int .i64 a0]) Tryz.noNG Tryz.mixed Tryz.func34 h (by kernel_rfl)
def law22_LinesTells.pre (a0 : Int) (a1 : Int) (a2 : Int) (a3 : Int) (a4 : Int) (w : World) (R : Ending → World → Prop) : Prop :=
 Calls Tryz.prog 26 #[] w (fun e w0 => ∃ (p1 : Option Addr), e = .returned (.pointer p1) ∧
 Br (p1).isNone
 (R (.returned (.bool false)) w0)
 (Calls Tryz.prog n_law22_abs #[.int .i64 a4] w0 (fun e w2 => ∃ (x3 : Int), e = .returned (.int .i64 x3) ∧
 (0 : Int) ≤ (IntKind.wrap .i64 (1 + (Int.tmod x3 6))) ∧ (IntKind.wrap .i64 (1 + (Int.tmod x3 6))) ≤ ((((ByteArray.mk #[32, 32, 32, 32, 32, 32])).size : Nat) : Int) ∧ Calls Tryz.prog n_law22_abs #[.int .i64 a0] w2 (fun e w4 => ∃ (x5 : Int), e = .returned (.int .i64 x5) ∧
 Calls Tryz.prog 13 #[.int .i64 (Int.tmod x5 16)] w4 (fun e w6 => ∃ (t7 : ByteArray), e = .returned (.string t7) ∧
 ((((((ByteArray.mk #[32, 32, 32, 32, 32, 32])).extract (0) (((IntKind.wrap .i64 (1 + (Int.tmod x3 6))) : Int).toNat))).size + (t7).size : Nat) : Int) ≤ IntKind.i64.max ∧ (((((((ByteArray.mk #[32, 32, 32, 32, 32, 32])).extract (0) (((IntKind.wrap .i64 (1 + (Int.tmod x3 6))) : Int).toNat)) ++ t7)).size + ((((ByteArray.mk #[32, 32, 32, 32, 32, 32])).extract (0) (((IntKind.wrap .i64 (1 + (Int.tmod x3 6))) : Int).toNat))).size : Nat) : Int) ≤ IntKind.i64.max ∧ Calls Tryz.prog n_law22_abs #[.int .i64 a1] w6 (fun e w8 => ∃ (x9 : Int), e = .returned (.int .i64 x9) ∧
 Calls Tryz.prog 13 #[.int .i64 (IntKind.wrap .i64 (15 + (Int.tmod x9 17)))] w8 (fun e w10 => ∃ (t11 : ByteArray), e = .returned (.string t11) ∧
 ((((((((ByteArray.mk #[32, 32, 32, 32, 32, 32])).extract (0) (((IntKind.wrap .i64 (1 + (Int.tmod x3 6))) : Int).toNat)) ++ t7) ++ (((ByteArray.mk #[32, 32, 32, 32, 32, 32])).extract (0) (((IntKind.wrap .i64 (1 + (Int.tmod x3 6))) : Int).toNat)))).size + (t11).size : Nat) : Int) ≤ IntKind.i64.max ∧ (((((((((ByteArray.mk #[32, 32, 32, 32, 32, 32])).extract (0) (((IntKind.wrap .i64 (1 + (Int.tmod x3 6))) : Int).toNat)) ++ t7) ++ (((ByteArray.mk #[32, 32, 32, 32, 32, 32])).extract (0) (((IntKind.wrap .i64 (1 + (Int.tmod x3 6))) : Int).toNat))) ++ t11)).size + ((((ByteArray.mk #[32, 32, 32, 32, 32, 32])).extract (0) (((IntKind.wrap .i64 (1 + (Int.tmod x3 6))) : Int).toNat))).size : Nat) : Int) ≤ IntKind.i64.max ∧ Calls Tryz.prog n_law22_abs #[.int .i64 a2] w10 (fun e w12 => ∃ (x13 : Int), e = .returned (.int .i64 x13) ∧
 Calls Tryz.prog 13 #[.int .i64 (Int.tmod x13 16)] w12 (fun e w14 => ∃ (t15 : ByteArray), e = .returned (.string t15) ∧
 ((((((((((ByteArray.mk #[32, 32, 32, 32, 32, 32])).extract (0) (((IntKind.wrap .i64 (1 + (Int.tmod x3 6))) : Int).toNat)) ++ t7) ++ (((ByteArray.mk #[32, 32, 32, 32, 32, 32])).extract (0) (((IntKind.wrap .i64 (1 + (Int.tmod x3 6))) : Int).toNat))) ++ t11) ++ (((ByteArray.mk #[32, 32, 32, 32, 32, 32])).extract (0) (((IntKind.wrap .i64 (1 + (Int.tmod x3 6))) : Int).toNat)))).size + (t15).size : Nat) : Int) ≤ IntKind.i64.max ∧ Calls Tryz.prog 17 #[.int .i64 a3] w14 (fun e w16 => ∃ (x17 : Int), e = .returned (.int .i64 x17) ∧
 Calls Tryz.prog 16 #[.int .i64 x17] w16 (fun e w18 => ∃ (t19 : ByteArray), e = .returned (.string t19) ∧
 Calls Tryz.prog 14 #[.pointer p1, .string (ByteArray.mk #[108, 111, 97, 100, 32, 48, 32, 48])] w18 (fun e w20 => ∃ (t21 : ByteArray), e = .returned (.string t21) ∧
 Br (!strEq t21 (ByteArray.mk #[111, 107]))
 (R (.returned (.bool false)) w20)
 (((((((ByteArray.mk #[32, 32, 32, 32, 32, 32])).extract (0) (((IntKind.wrap .i64 (1 + (Int.tmod x3 6))) : Int).toNat))).size + ((ByteArray.mk #[97, 116])).size : Nat) : Int) ≤ IntKind.i64.max ∧ (((((((ByteArray.mk #[32, 32, 32, 32, 32, 32])).extract (0) (((IntKind.wrap .i64 (1 + (Int.tmod x3 6))) : Int).toNat)) ++ (ByteArray.mk #[97, 116]))).size + (((((((((ByteArray.mk #[32, 32, 32, 32, 32, 32])).extract (0) (((IntKind.wrap .i64 (1 + (Int.tmod x3 6))) : Int).toNat)) ++ t7) ++ (((ByteArray.mk #[32, 32, 32, 32, 32, 32])).extract (0) (((IntKind.wrap .i64 (1 + (Int.tmod x3 6))) : Int).toNat))) ++ t11) ++ (((ByteArray.mk #[32, 32, 32, 32, 32, 32])).extract (0) (((IntKind.wrap .i64 (1 + (Int.tmod x3 6))) : Int).toNat))) ++ t15)).size : Nat) : Int) ≤ IntKind.i64.max ∧ Calls Tryz.prog 14 #[.pointer p1, .string (((((ByteArray.mk #[32, 32, 32, 32, 32, 32])).extract (0) (((IntKind.wrap .i64 (1 + (Int.tmod x3 6))) : Int).toNat)) ++ (ByteArray.mk #[97, 116])) ++ ((((((((ByteArray.mk #[32, 32, 32, 32, 32, 32])).extract (0) (((IntKind.wrap .i64 (1 + (Int.tmod x3 6))) : Int).toNat)) ++ t7) ++ (((ByteArray.mk #[32, 32, 32, 32, 32, 32])).extract (0) (((IntKind.wrap .i64 (1 + (Int.tmod x3 6))) : Int).toNat))) ++ t11) ++ (((ByteArray.mk #[32, 32, 32, 32, 32, 32])).extract (0) (((IntKind.wrap .i64 (1 + (Int.tmod x3 6))) : Int).toNat))) ++ t15))] w20 (fun e w22 => ∃ (t23 : ByteArray), e = .returned (.string t23) ∧
 Br (!strEq t23 (ByteArray.mk #[97, 105, 114]))
 (R (.returned (.bool false)) w22)
 (((((ByteArray.mk #[101, 100, 105, 116])).size + (((((((((ByteArray.mk #[32, 32, 32, 32, 32, 32])).extract (0) (((IntKind.wrap .i64 (1 + (Int.tmod x3 6))) : Int).toNat)) ++ t7) ++ (((ByteArray.mk #[32, 32, 32, 32, 32, 32])).extract (0) (((IntKind.wrap .i64 (1 + (Int.tmod x3 6))) : Int).toNat))) ++ t11) ++ (((ByteArray.mk #[32, 32, 32, 32, 32, 32])).extract (0) (((IntKind.wrap .i64 (1 + (Int.tmod x3 6))) : Int).toNat))) ++ t15)).size : Nat) : Int) ≤ IntKind.i64.max ∧ (((((ByteArray.mk #[101, 100, 105, 116]) ++ ((((((((ByteArray.mk #[32, 32, 32, 32, 32, 32])).extract (0) (((IntKind.wrap .i64 (1 + (Int.tmod x3 6))) : Int).toNat)) ++ t7) ++ (((ByteArray.mk #[32, 32, 32, 32, 32, 32])).extract (0) (((IntKind.wrap .i64 (1 + (Int.tmod x3 6))) : Int).toNat))) ++ t11) ++ (((ByteArray.mk #[32, 32, 32, 32, 32, 32])).extract (0) (((IntKind.wrap .i64 (1 + (Int.tmod x3 6))) : Int).toNat))) ++ t15))).size + ((((ByteArray.mk #[32, 32, 32, 32, 32, 32])).extract (0) (((IntKind.wrap .i64 (1 + (Int.tmod x3 6))) : Int).toNat))).size : Nat) : Int) ≤ IntKind.i64.max ∧ ((((((ByteArray.mk #[101, 100, 105, 116]) ++ ((((((((ByteArray.mk #[32, 32, 32, 32, 32, 32])).extract (0) (((IntKind.wrap .i64 (1 + (Int.tmod x3 6))) : Int).toNat)) ++ t7) ++ (((ByteArray.mk #[32, 32, 32, 32, 32, 32])).extract (0) (((IntKind.wrap .i64 (1 + (Int.tmod x3 6))) : Int).toNat))) ++ t11) ++ (((ByteArray.mk #[32, 32, 32, 32, 32, 32])).extract (0) (((IntKind.wrap .i64 (1 + (Int.tmod x3 6))) : Int).toNat))) ++ t15)) ++ (((ByteArray.mk #[32, 32, 32, 32, 32, 32])).extract (0) (((IntKind.wrap .i64 (1 + (Int.tmod x3 6))) : Int).toNat)))).size + (t19).size : Nat) : Int) ≤ IntKind.i64.max ∧ (((((((ByteArray.mk #[101, 100, 105, 116]) ++ ((((((((ByteArray.mk #[32, 32, 32, 32, 32, 32])).extract (0) (((IntKind.wrap .i64 (1 + (Int.tmod x3 6))) : Int).toNat)) ++ t7) ++ (((ByteArray.mk #[32, 32, 32, 32, 32, 32])).extract (0) (((IntKind.wrap .i64 (1 + (Int.tmod x3 6))) : Int).toNat))) ++ t11) ++ (((ByteArray.mk #[32, 32, 32, 32, 32, 32])).extract (0) (((IntKind.wrap .i64 (1 + (Int.tmod x3 6))) : Int).toNat))) ++ t15)) ++ (((ByteArray.mk #[32, 32, 32, 32, 32, 32])).extract (0) (((IntKind.wrap .i64 (1 + (Int.tmod x3 6))) : Int).toNat))) ++ t19)).size + ((((ByteArray.mk #[32, 32, 32, 32, 32, 32])).extract (0) (((IntKind.wrap .i64 (1 + (Int.tmod x3 6))) : Int).toNat))).size : Nat) : Int) ≤ IntKind.i64.max ∧ Calls Tryz.prog 14 #[.pointer p1, .string (((((ByteArray.mk #[101, 100, 105, 116]) ++ ((((((((ByteArray.mk #[32, 32, 32, 32, 32, 32])).extract (0) (((IntKind.wrap .i64 (1 + (Int.tmod x3 6))) : Int).toNat)) ++ t7) ++ (((ByteArray.mk #[32, 32, 32, 32, 32, 32])).extract (0) (((IntKind.wrap .i64 (1 + (Int.tmod x3 6))) : Int).toNat))) ++ t11) ++ (((ByteArray.mk #[32, 32, 32, 32, 32, 32])).extract (0) (((IntKind.wrap .i64 (1 + (Int.tmod x3 6))) : Int).toNat))) ++ t15)) ++ (((ByteArray.mk #[32, 32, 32, 32, 32, 32])).extract (0) (((IntKind.wrap .i64 (1 + (Int.tmod x3 6))) : Int).toNat))) ++ t19) ++ (((ByteArray.mk #[32, 32, 32, 32, 32, 32])).extract (0) (((IntKind.wrap .i64 (1 + (Int.tmod x3 6))) : Int).toNat)))] w22 (fun e w24 => ∃ (t25 : ByteArray), e = .returned (.string t25) ∧
 Br (!strEq t25 (ByteArray.mk #[111, 107]))
 (R (.returned (.bool false)) w24)
 (((((ByteArray.mk #[97, 116])).size + (((((((((ByteArray.mk #[32, 32, 32, 32, 32, 32])).extract (0) (((IntKind.wrap .i64 (1 + (Int.tmod x3 6))) : Int).toNat)) ++ t7) ++ (((ByteArray.mk #[32, 32, 32, 32, 32, 32])).extract (0) (((IntKind.wrap .i64 (1 + (Int.tmod x3 6))) : Int).toNat))) ++ t11) ++ (((ByteArray.mk #[32, 32, 32, 32, 32, 32])).extract (0) (((IntKind.wrap .i64 (1 + (Int.tmod x3 6))) : Int).toNat))) ++ t15)).size : Nat) : Int) ≤ IntKind.i64.max ∧ Calls Tryz.prog 14 #[.pointer p1, .string ((ByteArray.mk #[97, 116]) ++ ((((((((ByteArray.mk #[32, 32, 32, 32, 32, 32])).extract (0) (((IntKind.wrap .i64 (1 + (Int.tmod x3 6))) : Int).toNat)) ++ t7) ++ (((ByteArray.mk #[32, 32, 32, 32, 32, 32])).extract (0) (((IntKind.wrap .i64 (1 + (Int.tmod x3 6))) : Int).toNat))) ++ t11) ++ (((ByteArray.mk #[32, 32, 32, 32, 32, 32])).extract (0) (((IntKind.wrap .i64 (1 + (Int.tmod x3 6))) : Int).toNat))) ++ t15))] w24 (fun e w26 => ∃ (t27 : ByteArray), e = .returned (.string t27) ∧
 Br (strEq t27 t19)
 (Calls Tryz.prog 14 #[.pointer p1, .string (ByteArray.mk #[98, 111, 100, 121, 32, 48])] w26 (fun e w28 => ∃ (t29 : ByteArray), e = .returned (.string t29) ∧
 Br (strEq t29 (ByteArray.mk #[110, 111, 110, 101]))
 (Calls Tryz.prog 14 #[.pointer p1, .string (ByteArray.mk #[108, 105, 118, 101])] w28 (fun e w30 => ∃ (t31 : ByteArray), e = .returned (.string t31) ∧
 Br (strEq t31 (ByteArray.mk #[]))
 (Calls Tryz.prog 14 #[.pointer p1, .string (ByteArray.mk #[104, 101, 114, 101])] w30 (fun e w32 => ∃ (t33 : ByteArray), e = .returned (.string t33) ∧
 Br (strEq t33 (ByteArray.mk #[48, 32, 48]))
 (Calls Tryz.prog 30 #[] w32 (fun e w34 => ∃ (b35 : Bool), e = .returned (.bool b35) ∧
 R (.returned (.bool b35)) w34))
 (R (.returned (.bool false)) w32)))
 (R (.returned (.bool false)) w30)))
 (R (.returned (.bool false)) w28)))
 (R (.returned (.bool false)) w26)))))))))))))))))))
theorem law22_LinesTells.vc {a0 a1 a2 a3 a4 w} {R : Ending → World → Prop} (h : law22_LinesTells.pre a0 a1 a2 a3 a4 w R) : Calls Tryz.prog n_law22_LinesTells #[.int .i64 a0, .int .i64 a1, .int .i64 a2, .int .i64 a3, .int .i64 a4] w R :=
 calls_of_eq (an := ⟨[], [], []⟩) (args := [.int .i64 a0, .int .i64 a1, .int .i64 a2, .int .i64 a3, .int .i64 a4]) Tryz.noNG Tryz.mixed Tryz.func7 h (by kernel_rfl)
end Go.Proofs.YtjcnjlaelhdjeaaGreatDoor
namespace Go.Proofs.YtjcnjlaelhdjeaaGreatDoor
open Go Go.Vc Go.RowKit Go.Proofs Go.Lin Go.Chk Go.Runs Go.Code Go.Que Go.Flw Go.Eng
set_option linter.unusedVariables false
theorem ref04_Name_spec (b : Int) (w : World) (hb : inI b) : Calls Tryz.prog n_ref04_Name #[.int .i64 b] w fun e w' => e = .returned (.string (bName b)) ∧ Ext w w' := by
 apply ref04_Name.vc
 refine (ref04_May_spec b w).mono ?_
 rintro e w' ⟨rfl, rfl⟩
 refine ⟨_, rfl, Br.mk (fun h => ?_) (fun h => Br.mk (fun h2 => ?_) (fun h2 => ?_))⟩
 ·have : bName b = ⟨#[]⟩ := by
   have := bMay_iff b
   cases hm : bMay b <;> simp_all
  rw [this]; exact ⟨rfl, Ext.rfl' _⟩
 ·simp at h h2
  have hm := h
  unfold bMay at hm
  simp at hm
  unfold inI at hb
  rw [wrap_in (by unfold inI; omega), wrap_in (by unfold inI; omega)]
  have : b = 8 ∨ b = 9 ∨ b = 10 ∨ b = 11 ∨ b = 12 ∨ b = 13 ∨ b = 14 ∨ b = 15 := by omega
  refine ⟨by omega, ?_, by omega, by omega, ?_, ?_, Ext.rfl' _⟩
  ·show b - 7 ≤ 8
   omega
  ·have : IntKind.i64.max = 9223372036854775807 := by decide
   rcases ‹b = 8 ∨ _› with rfl | rfl | rfl | rfl | rfl | rfl | rfl | rfl <;> decide
  ·rcases this with rfl | rfl | rfl | rfl | rfl | rfl | rfl | rfl <;> (congr 2)
 ·simp at h h2
  have hm := h
  unfold bMay at hm
  simp at hm
  intro w2 hw2
  have r2 : Row w2 w'.heap.size ((nmT.take 6).map .string) 9 := by rw [hw2]; exact Row.new w' ((nmT.take 6).map .string) 9
  refine ⟨⟨rfl, by omega, by omega⟩, bName b, ?_, rfl, (Ext.rfl' _).of_alloc hw2⟩
  rw [padd_row, r2.ld]
  have : b = 0 ∨ b = 1 ∨ b = 2 ∨ b = 3 ∨ b = 4 ∨ b = 5 := by omega
  rcases this with rfl | rfl | rfl | rfl | rfl | rfl <;> rfl
def Wd (t : ByteArray) : Prop := bl t ≠ [] ∧ ∀ c ∈ bl t, c ≠ 32
theorem words_wg {w : List UInt8} (l : List UInt8) {k : Nat} (hk : 0 < k) (h0 : w ≠ []) (h : ∀ c ∈ w, c ≠ 32) : wordsL (w ++ (List.replicate k 32 ++ l)) = w :: wordsL l := by
 obtain ⟨j, rfl⟩ : ∃ j, k = j + 1 := ⟨k - 1, by omega⟩
 rw [List.replicate_succ, List.cons_append, words_word _ h0 h, words_blanks]
theorem words_end {w : List UInt8} {k : Nat} (hk : 0 < k) (h0 : w ≠ []) (h : ∀ c ∈ w, c ≠ 32) : wordsL (w ++ List.replicate k 32) = [w] := by
 have := words_wg (w := w) [] hk h0 h
 rw [List.append_nil] at this
 exact this
def decT (n : Int) : ByteArray := ⟨(decL 2 n).toArray⟩
theorem dec_num {n : Int} (h : 0 ≤ n ∧ n < 32) : numK (decT n) = (n, true) ∧ (decL 2 n ≠ [] ∧ (decL 2 n).all (fun c => c != 32)) ∧ (decT n).size ≤ 10 := by
 have : ∀ i : Fin 32, numK (decT (i.val : Int)) = ((i.val : Int), true) ∧ (decL 2 (i.val : Int) ≠ [] ∧ (decL 2 (i.val : Int)).all (fun c => c != 32)) ∧ (decT (i.val : Int)).size ≤ 10 := by decide +kernel
 have h1 := this ⟨n.toNat, by omega⟩
 have e : ((n.toNat : Nat) : Int) = n := by omega
 simp only [e] at h1
 exact h1
theorem dec_wd {n : Int} (h : 0 ≤ n ∧ n < 32) : Wd (decT n) := by
 obtain ⟨-, ⟨h1, h2⟩, -⟩ := dec_num h
 exact ⟨h1, fun c hc => by have := List.all_eq_true.1 h2 c hc; simpa using this⟩
theorem name_all {b : Int} (h : 0 ≤ b ∧ b ≤ 15) (hm : bMay b = true) : (pRes (bName b) = (b, true) ∧ bl (bName b) ≠ [] ∧ (bl (bName b)).all (fun c => c != 32)) ∧ (bName b).size ≤ 10 := by
 have : ∀ i : Fin 16, bMay (i.val : Int) = true → (pRes (bName (i.val : Int)) = ((i.val : Int), true) ∧ bl (bName (i.val : Int)) ≠ [] ∧ (bl (bName (i.val : Int))).all (fun c => c != 32)) ∧ (bName (i.val : Int)).size ≤ 10 := by decide +kernel
 have h1 := this ⟨b.toNat, by omega⟩
 have e : ((b.toNat : Nat) : Int) = b := by omega
 simp only [e] at h1
 exact h1 hm
theorem name_wd {b : Int} (h : 0 ≤ b ∧ b ≤ 15) (hm : bMay b = true) : Wd (bName b) := by
 obtain ⟨⟨-, h1, h2⟩, -⟩ := name_all h hm
 exact ⟨h1, fun c hc => by have := List.all_eq_true.1 h2 c hc; simpa using this⟩
theorem pVec_of {x y z : Int} {a b c : ByteArray} {r : List ByteArray} (ha : numK a = (x, true)) (hb : numK b = (y, true)) (hc : numK c = (z, true)) : pVec (a :: b :: c :: r) = some ((x, y, z), r) := by
 unfold pVec pNum pWord
 simp only [ha, hb, hc, if_true]
theorem pBlk_of {t : ByteArray} {b : Int} {r : List ByteArray} (h : pRes t = (b, true)) : pBlk (t :: r) = some (b, r) := by
 unfold pBlk pWord
 simp only [h, if_true]
end Go.Proofs.YtjcnjlaelhdjeaaGreatDoor
namespace Go.Proofs.YtjcnjlaelhdjeaaGreatDoor
open Go Go.Vc Go.RowKit Go.Proofs Go.Lin Go.Chk Go.Runs Go.Code Go.Que Go.Flw Go.Eng
set_option linter.unusedVariables false
def absK (n : Int) : Int := if n < 0 then -(n + 1) else n
theorem abs_in {n : Int} (h : inI n) : 0 ≤ absK n ∧ inI (absK n) := by
 unfold absK inI at *
 split <;> omega
theorem abs_spec (n : Int) (h : inI n) (w : World) : Calls Tryz.prog n_law22_abs #[.int .i64 n] w fun e w' => e = .returned (.int .i64 (absK n)) ∧ w' = w := by
 apply law22_abs.vc
 unfold law22_abs.pre absK
 refine Br.mk (fun q => ?_) (fun q => ?_)
 ·have q : n < 0 := by simpa using q
  unfold inI at h
  rw [if_pos q, wrap_in (n := n + 1) (by unfold inI; omega), wrap_in (by unfold inI; omega)]
  exact ⟨by rw [show (0 : Int) - (n + 1) = -(n + 1) by omega], rfl⟩
 ·have q : ¬ n < 0 := by simpa using q
  rw [if_neg q]
  exact ⟨rfl, rfl⟩
theorem tmod_in {n : Int} (h : 0 ≤ n) {k : Int} (hk : 0 < k) : 0 ≤ Int.tmod n k ∧ Int.tmod n k < k := by
 rw [Int.tmod_eq_emod_of_nonneg h]
 exact ⟨Int.emod_nonneg _ (by omega), Int.emod_lt_of_pos _ hk⟩
theorem base1 : ∃ (C : List Int), C.length = 8192 ∧ (∀ b ∈ C, bMay b = true) ∧ ldE 1 9 (dk0 200000) [] (0, 0) = ((dk0 200000, [((0, 0), C, false, 0)]), 0) ∧ ∀ c, inY c → pos c = (0, 0) → atE [(((0, 0), C, false, 0) : En)] c = ofG c.2.1 (ground 1 c.1 c.2.2) := by
 refine ⟨made 1 (0, 0), made_len 1 (0, 0), made_may 1 (0, 0), ld00', fun c hy hp => ?_⟩
 have hg := made_get 1 (pos c) (k := (idx c).toNat) (by have := idx_in hy; omega)
 have hi := idx_in hy
 rw [Int.toNat_of_nonneg hi.1, cellAt_idx hy, atC_get (c := made 1 (pos c)) (i := idx c) hi.1 (by rw [made_len]; omega), hp] at hg
 generalize made 1 (0, 0) = C at *
 have hn : nodL [(((0, 0), C, false, 0) : En)] := by unfold nodL; simp
 rw [at_here hn (List.mem_singleton.2 rfl) hp.symm, if_neg (by unfold inY at hy; omega)]
 have hk : inK (0, 0) c = true := (inK_iff _ _).2 ⟨hy, hp⟩
 unfold kAt
 simp only
 rw [hk, if_pos rfl]
 exact Option.some.inj hg
theorem set1 {C : List Int} {c : Ce} {b : Int} (hp : pos c = (0, 0)) (hy : inY c) (hb : bMay b = true) : ∃ C' d, setE [(((0, 0), C, false, 0) : En)] c b = ([((0, 0), C', d, 0)], 0) := by
 have hf : firstI (fun e : En => e.1 == pos c) [(((0, 0), C, false, 0) : En)] = 0 := firstI_at (k := 0) rfl (by rw [hp]; rfl) fun j hj => by omega
 refine ⟨(kSet (0, 0) C c b).1, false || (kAt (0, 0) C c != b), ?_⟩
 unfold setE
 rw [hf, if_neg (by omega), if_neg (by simpa using hy), if_neg (by rw [hb]; decide)]
 rfl
theorem words_c {k : Nat} (hk : 0 < k) {c a b d : ByteArray} (hc : Wd c) (ha : Wd a) (hb : Wd b) (hd : Wd d) (t : List UInt8) :
  wordsL (bl c ++ (List.replicate k 32 ++ (bl a ++ (List.replicate k 32 ++ (bl b ++ (List.replicate k 32 ++ (bl d ++ t))))))) = bl c :: bl a :: bl b :: wordsL (bl d ++ t) := by
 rw [words_wg _ hk hc.1 hc.2, words_wg _ hk ha.1 ha.2, words_wg _ hk hb.1 hb.2]
theorem le_max {n : Nat} (h : n ≤ 1000) : ((n : Nat) : Int) ≤ IntKind.i64.max := by
 have : IntKind.i64.max = 9223372036854775807 := by decide
 omega
theorem held_none (c : Ce) : heldL noL c = false := by
 unfold heldL noL
 rw [List.any_eq_false]
 intro x hx
 rw [List.eq_of_mem_replicate hx]
 simp [meetL]
theorem okL_none (m : Int) : okL m noL := fun y hy => by cases List.eq_of_mem_replicate hy
end Go.Proofs.YtjcnjlaelhdjeaaGreatDoor
namespace Go.Proofs.YtjcnjlaelhdjeaaGreatDoor
open Go Go.Vc Go.RowKit Go.Proofs
set_option maxRecDepth 100000
set_option maxHeartbeats 8000000
set_option linter.unusedVariables false
end Go.Proofs.YtjcnjlaelhdjeaaGreatDoor
namespace Go.Proofs.YtjcnjlaelhdjeaaGreatDoor
open Go Go.Vc Go.RowKit Go.Proofs Go.Lin Go.Chk Go.Runs Go.Code
set_option linter.unusedVariables false
theorem maxLen_is {w : World} (h : w.ShapedOpen Tryz.prog) : ∃ m, w.cell? ⟨0, 0, none⟩ = some (.int .i64 m) :=
 cell_of_shapedOpen_int (t := 3) (zero := #[.int .i64 0]) h (by decide +kernel) (by kernel_rfl) rfl (by kernel_rfl) (by kernel_rfl) Tryz.underlying3
end Go.Proofs.YtjcnjlaelhdjeaaGreatDoor
