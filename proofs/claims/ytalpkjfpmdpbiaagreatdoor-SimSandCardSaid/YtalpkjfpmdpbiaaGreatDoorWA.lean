import Derived.Test.YtalpkjfpmdpbiaaGreatDoorRL
import Derived.Test.YtalpkjfpmdpbiaaGreatDoorGW
set_option linter.all false
namespace Go.Proofs.YtalpkjfpmdpbiaaGreatDoor
open Go Go.Vc Go.RowKit Go.Proofs Go.bQ Go.aB Go.Code
abbrev qX:TypeId:=100
abbrev gz:TypeId:=71
abbrev Cg:=Ce × Int
abbrev Ji (x:Cg):List Value:=[.int .i64 x.1.1,.int .i64 x.1.2.1,.int .i64 x.1.2.2,.int .i64 x.2]
def WF (F : Nat → Prop) (w : World) (o t : Nat) (aa limit : Int) (T : Tb) (ch : List Cg) : Prop :=
 ∃ F1 sc, TF F1 w t aa limit T ∧ Row w o [.pointer (some ⟨t, 0, none⟩), .slice sc.a sc.n sc.c] qX ∧ af 0 gz 4 w sc (ch.map Ji) ∧ F = fun i => F1 i ∨ i = o ∨ sc.ax = some i
theorem WF.lt {F:Nat->Prop} {w:World} {o t:Nat} {aa limit:Int} {T:Tb} {ch:List Cg} (h:WF F w o t aa limit T ch) {i:Nat} (hi:F i):i<w.heap.size:=by
 obtain ⟨F1,sc,h1,h2,h3,rfl⟩:=h
 rcases hi with hi|rfl|hi
 ·exact h1.lt hi
 ·exact h2.lt
 ·exact (h3.own.lt hi).2
theorem WF.same {F:Nat->Prop} {w w':World} {o t:Nat} {aa limit:Int} {T:Tb} {ch:List Cg} (h:WF F w o t aa limit T ch) (hs:∀i,F i->w'.heap[i]? =w.heap[i]?):WF F w' o t aa limit T ch:=by
 obtain ⟨F1,sc,h1,h2,h3,rfl⟩:=h
 exact ⟨F1,sc,h1.same fun i hi=>hs i (.inl hi),h2.same (hs o (.inr (.inl rfl))),af.bC h3 fun b hb=>hs b (.inr (.inr hb)),rfl⟩
theorem WF.ext {F:Nat->Prop} {w w':World} {o t:Nat} {aa limit:Int} {T:Tb} {ch:List Cg} (h:WF F w o t aa limit T ch) (x:Ext w w'):WF F w' o t aa limit T ch:=h.same fun _ hi=>x.heap (h.lt hi)
theorem WF.bC {F G:Nat->Prop} {w w':World} {o t:Nat} {aa limit:Int} {T:Tb} {ch:List Cg} (h:WF F w o t aa limit T ch) (hm:Mod G w w') (hn:∀i,F i->¬G i):WF F w' o t aa limit T ch:=h.same fun i hi=>hm.same i (h.lt hi) (hn i hi)
theorem WF.a9 {F : Nat → Prop} {w : World} {o t : Nat} {aa limit : Int} {T : Tb} {ch : List Cg} (h : WF F w o t aa limit T ch) {j : Nat} {cs : List Value} {τ : TypeId} (hr : Row w j cs τ) (hτ : tY τ) (hw : τ ≠ qX) (hc : τ ≠ gz) : ¬ F j := by
 obtain ⟨F1, sc, h1, h2, h3, rfl⟩ := h
 rintro (hi | rfl | hi)
 ·exact h1.a9 hr hτ hi
 ·exact hr.ne h2 hw rfl
 ·obtain ⟨cs', hr'⟩ := au h3 (by decide) hi
  exact hr.ne hr' hc rfl
abbrev F8 (F:Nat->Prop) (w:World) (o t:Nat) (aa limit:Int) (T:Tb) (ch:List Cg) (w':World):Prop:=∃F',WF F' w' o t aa limit T ch/\ao F F' w w'
theorem WF.table {F : Nat → Prop} {w : World} {o t : Nat} {aa limit : Int} {T : Tb} {ch : List Cg} (h : WF F w o t aa limit T ch) : ∃ F1, TF F1 w t aa limit T ∧ (∀ i, F1 i → F i) ∧ ∀ {w' : World} {T' : Tb}, F9 F1 w t aa limit T' w' → F8 F w o t aa limit T' ch w' := by
 obtain ⟨F1, sc, h1, h2, h3, rfl⟩ := h
 refine ⟨F1, h1, fun i hi => .inl hi, ?_⟩
 rintro w' T' ⟨F', h', ht⟩
 have n2 := h1.a9 h2 (by decide)
 have n3 : ∀ b, sc.ax = some b → ¬ F1 b := fun b hb => by
  obtain ⟨cs', hr'⟩ := au h3 (by decide) hb
  exact h1.a9 hr' (by decide)
 refine ⟨_, ⟨F', sc, h', ht.mod.row h2 n2, ht.mod.cr h3 n3, rfl⟩, ht.mod.mono fun i _ hi => .inl hi, fun i hi => ?_⟩
 rcases hi with hi | hi | hi
 ·exact (ht.sub i hi).imp .inl id
 ·exact .inl (.inr (.inl hi))
 ·exact .inl (.inr (.inr hi))
theorem Cy (aa limit room : Int) (w : World) : Calls Tryz.prog sG #[aa, limit, room] w fun e w' => ∃ o t F, e = .returned (.pointer (some ⟨o, 0, none⟩)) ∧ WF F w' o t aa (min (max limit 1) 16) (eP room, []) [] ∧ Ext w w' ∧ ∀ i, F i → w.heap.size ≤ i := by
 apply qY.vc
 refine (Az aa limit room w).mono ?_
 rintro e w0 ⟨t, F1, rfl, h0, x0, f0⟩
 refine ⟨_, rfl, fun w2 e2 => ⟨w0.heap.size, t, _, rfl, ⟨F1, ⟨none, 0, 0⟩, h0.ext ((Ext.aq _).ab e2), ?_, af.nil, rfl⟩, x0.ab e2, fun i hi => ?_⟩⟩
 ·rw [e2]; exact Row.new w0 [_, _] _
 ·rcases hi with hi | hi | hi
  ·exact f0 i hi
  ·have := x0.size; omega
  ·cases hi
theorem yM {F : Nat → Prop} {w : World} {o t : Nat} {aa limit : Int} {T : Tb} {ch : List Cg} (h : WF F w o t aa limit T ch) : Calls Tryz.prog ic #[.pointer (some ⟨o, 0, none⟩)] w fun e w' => e = .returned (.pointer (some ⟨t, 0, none⟩)) ∧ w' = w := by
 obtain ⟨F1, sc, h1, h2, h3, rfl⟩ := h
 apply eZ.vc
 exact ⟨_, h2.at 0 rfl, rfl, rfl⟩
theorem kT {F : Nat → Prop} {w : World} {o t : Nat} {aa limit : Int} {T : Tb} {ch : List Cg} (h : WF F w o t aa limit T ch) : Calls Tryz.prog iQ #[.pointer (some ⟨o, 0, none⟩)] w fun e w' => e = .returned (.func (.func bc) #[.pointer (some ⟨t, 0, none⟩)] #[]) ∧ w' = w := by
 obtain ⟨F1, sc, h1, h2, h3, rfl⟩ := h
 apply fB.vc
 exact ⟨_, h2.at 0 rfl, rfl, rfl⟩
def yN (l:List En) (ch:List Cg) (c:Ce) (b:Int):List Cg:=if (cc l c b).2=0/\cD l c≠b then ch++ [(c,b)]else ch
theorem IE (a b c d:Int):One [Value.int .i64 a,b,c,d]:=by
 intro v hv
 simp at hv
 rcases hv with rfl|rfl|rfl|rfl<;>rfl
theorem Cz {F : Nat → Prop} {w : World} {o t : Nat} {aa limit : Int} {T : Tb} {ch : List Cg} (h : WF F w o t aa limit T ch) (c : Ce) (hc : pW c) (b : Int) (hn : ch.length ≤ 1000000) :
  Calls Tryz.prog jy #[.pointer (some ⟨o, 0, none⟩), mq c, .int .i64 b] w fun e w' => e = .returned (.int .i64 (cc T.2 c b).2) ∧ F8 F w o t aa limit (T.1, (cc T.2 c b).1) (yN T.2 ch c b) w' := by
 have hF := fun {i} => h.lt (i := i)
 have hh := h
 obtain ⟨F1, sc, h1, h2, h3, rfl⟩ := h
 apply gO.vc
 intro w0 e0
 have z0 := dR e0
 have x0 : Ext w w0.drew := ((Ext.aq w).ab e0).drew
 clear e0
 have zd : w0.drew.heap.size = w0.heap.size := rfl
 refine ⟨_, (h2.ext x0).at 0 rfl, (wh (h1.ext x0) c hc).mono ?_⟩
 rintro e w2 ⟨rfl, x2⟩
 have z2 := x2.size
 have x02 := (x0.tr x2).drew
 have zd2 : w2.drew.heap.size = w2.heap.size := rfl
 refine ⟨_, rfl, x2.k, _, (h2.ext x02).at 0 rfl, (AA (h1.ext x02) c hc b).mono ?_⟩
 rintro e w5 ⟨rfl, hT⟩
 obtain ⟨F', hF', ht'⟩ := hT
 have z5 := ht'.mod.size
 have n2 := (h1.ext x02).a9 (h2.ext x02) (by decide)
 have n3 : ∀ b, sc.ax = some b → ¬ F1 b := fun b hb => by
  obtain ⟨cs', hr'⟩ := au (h3.ext x02) (by decide) hb
  exact (h1.ext x02).a9 hr' (by decide)
 have h2' := ht'.mod.row (h2.ext x02) n2
 have h3' : af 0 gz 4 w5 sc (ch.map Ji) := ht'.mod.cr (h3.ext x02) n3
 have nb : ¬ F1 w.heap.size := fun hf => by have := hF (.inl hf); omega
 have tt : ao (fun i => F1 i ∨ i = o ∨ sc.ax = some i) (fun i => F' i ∨ i = o ∨ sc.ax = some i) w w5 := by
  refine (ao.ar x02).trans ⟨ht'.mod.mono fun i _ hi => .inl hi, fun i hi => ?_⟩
  rcases hi with hi | hi | hi
  ·exact (ht'.sub i hi).imp .inl id
  ·exact .inl (.inr (.inl hi))
  ·exact .inl (.inr (.inr hi))
 refine ⟨_, rfl, ht'.mod.same _ (by omega) nb, Br.mk (fun hb => Br.mk (fun hb2 => ?_) (fun hb2 => ?_)) (fun hb => ?_)⟩
 ·simp only [beq_iff_eq] at hb
  simp only [bne_iff_ne] at hb2
  have ec : yN T.2 ch c b = ch ++ [(c, b)] := by unfold yN; rw [if_pos ⟨hb, hb2⟩]
  rw [ec]
  have h2d := h2'.ext (Ext.dr w5)
  have hsn : sc.n = ch.length := by have := (h3.rd (show 0 < 4 by decide)).n; rwa [List.length_map] at this
  refine ⟨sc, h2d.at 1 rfl, fun w8 e8 => ?_⟩
  subst e8
  obtain ⟨hp, hres⟩ := (h3'.ext (Ext.dr w5)).mB (bytes := 32) (news := Ji (c, b)) (.cells #[c.1, c.2.1, c.2.2, .int .i64 b] gz) (Nat.zero_le _) rfl (IE _ _ _ _) (by omega) (by omega)
  refine ⟨hp, fun s9 w10 hr => ?_⟩
  obtain ⟨f1, ho10, hn10, xb, hk10, hblk⟩ := hres s9 w10 hr
  have zd5 : w5.drew.heap.size = w5.heap.size := rfl
  have hol := h2.lt
  have hscb : ∀ b, sc.ax = some b → b < w.heap.size := fun b hb => (h3.own.lt hb).2
  have m10 : Mod (fun j => sc.ax = some j) w5 w10 := (Mod.ar (Ext.dr w5)).trans (Mod.oT xb hk10)
  have no : ¬ sc.ax = some o := fun e => by
   obtain ⟨cs', hr'⟩ := au h3 (by decide) e
   exact hr'.ne h2 (by decide) rfl
  have h210 := m10.row h2' no
  obtain ⟨p1, p2⟩ := h210.iR (j := 1) (v := .slice s9.a s9.n s9.c) (by simp) rfl
  have z10 := m10.size
  have pb : ∀ j : Nat, o < j → bD (ae (some ⟨o, 0, none⟩) 1) ≠ some j := fun j hj e => by
   rw [br] at e
   have : o = j := by simpa [bD] using e
   omega
  refine ⟨(m10.same w.heap.size (by omega) (fun e => by have := hscb _ e; omega)).trans ((Ext.al w5.drew _).heap (show w.heap.size < w5.heap.size by omega)).symm, f1, ⟨rfl, p1⟩, pb _ (by omega), pb _ (show o < w5.heap.size by omega), fun w11 e11 => ⟨rfl, ?_⟩⟩
  obtain ⟨q1, q2⟩ := p2 w11 e11
  have ho9 : ∀ b, s9.ax = some b → b ≠ o := fun b hb => by
   obtain ⟨cs', hr'⟩ := au ho10 (by decide) hb
   exact hr'.ne h210 (by decide)
  have m11 : Mod (fun j => j = o ∨ sc.ax = some j) w5 w11 := (m10.mono fun i _ hi => .inr hi).trans (q2.mono fun i _ hi => .inl hi)
  have hF11 : TF F' w11 t aa limit (T.1, (cc T.2 c b).1) := hF'.bC m11 fun i hi e => by
   rcases e with e | e
   ·exact hF'.a9 h2' (by decide) (e ▸ hi)
   ·obtain ⟨cs', hr'⟩ := au h3' (by decide) e
    exact hF'.a9 hr' (by decide) hi
  refine ⟨_, ⟨F', s9, hF11, q1, ?_, rfl⟩, tt.trans ⟨m11.mono fun i _ hi => .inr hi, fun i hi => ?_⟩⟩
  ·rw [List.map_append]
   exact q2.cr ho10 ho9
  ·rcases hi with hi | hi | hi
   ·exact .inl (.inl hi)
   ·exact .inl (.inr (.inl hi))
   ·rcases hblk with e | e
    ·exact .inl (.inr (.inr (by rw [← e]; exact hi)))
    ·rw [e] at hi; cases hi; exact .inr (show w5.heap.size ≤ w5.heap.size + 1 by omega)
 ·simp only [bne_eq_false_iff_eq] at hb2
  have ec : yN T.2 ch c b = ch := by unfold yN; rw [if_neg fun h => h.2 hb2]
  rw [ec]
  exact ⟨rfl, _, ⟨F', sc, hF', h2', h3', rfl⟩, tt⟩
 ·simp only [beq_eq_false_iff_ne] at hb
  have ec : yN T.2 ch c b = ch := by unfold yN; rw [if_neg fun h => hb h.1]
  rw [ec]
  exact ⟨rfl, _, ⟨F', sc, hF', h2', h3', rfl⟩, tt⟩
theorem Ga (l:List En) (ch:List Cg) (c:Ce) (b:Int):(yN l ch c b).length<=ch.length+1:=by
 unfold yN
 split
 ·simp
 ·omega
abbrev rQ (q:Po):List Value:=[.int .i64 q.1,.int .i64 q.2]
def kU (p:Po):List Po:=[p,(p.1-1,p.2),(p.1+1,p.2),(p.1,p.2-1),(p.1,p.2+1)]
theorem xC (p : Po) (hp : BH p) (w : World) : Calls Tryz.prog jW #[pv p] w fun e w' => e = .returned (.agg #[p.1, p.2, .int .i64 (p.1 - 1), p.2, .int .i64 (p.1 + 1), p.2, p.1, .int .i64 (p.2 - 1), p.1, .int .i64 (p.2 + 1)]) ∧ Ext w w' := by
 apply jz.vc
 obtain ⟨⟨p1, p2⟩, p3, p4⟩ := hp
 have q1 : IntKind.wrap .i64 (p.1 - 1) = p.1 - 1 := wI
 have q2 : IntKind.wrap .i64 (p.1 + 1) = p.1 + 1 := wI
 have q3 : IntKind.wrap .i64 (p.2 - 1) = p.2 - 1 := wI
 have q4 : IntKind.wrap .i64 (p.2 + 1) = p.2 + 1 := wI
 unfold jz.pre
 rw [q1, q2, q3, q4]
 intro w0 e0 w1 e1
 have z0 := dR e0
 have x1 : Ext w w1 := ((Ext.aq w).ab e0).ab e1
 have hr : Row w1 w0.heap.size [(0:Int), (0:Int), (0:Int), (0:Int), (0:Int), (0:Int), (0:Int), (0:Int), (0:Int), (0:Int)] 202 := by rw [e1]; exact Row.new w0 [_, _, _, _, _, _, _, _, _, _] _
 refine ⟨⟨rfl, hr.wr (by simp)⟩, fun e => by
  have : w0.heap.size = w.heap.size := by simpa [bD] using e
  omega, fun w2 e2 => ?_⟩
 have h1 : One [Value.int .i64 p.1, p.2, .int .i64 (p.1 - 1), p.2, .int .i64 (p.1 + 1), p.2, p.1, .int .i64 (p.2 - 1), p.1, .int .i64 (p.2 + 1)] := by
  intro v hv
  simp only [List.mem_cons, List.not_mem_nil, or_false] at hv
  rcases hv with rfl | rfl | rfl | rfl | rfl | rfl | rfl | rfl | rfl | rfl <;> rfl
 rw [hr.aA (by simp) h1] at e2
 have hr2 : Row w2 w0.heap.size [p.1, p.2, .int .i64 (p.1 - 1), p.2, .int .i64 (p.1 + 1), p.2, p.1, .int .i64 (p.2 - 1), p.1, .int .i64 (p.2 + 1)] 202 := by rw [e2]; exact hr.set _
 exact ⟨_, _, _, _, _, _, _, _, _, _, hr2.aX (fun j hj => by rw [Nat.zero_add]), rfl, x1.ah e2 (by omega)⟩
theorem vJ (s : Sl) (ps : List Po) (p : Po) (w : World) (hs : ba w s 2 (ps.map rQ)) (hn : ps.length ≤ 1000) :
  Calls Tryz.prog eu #[s, pv p] w fun e w' => (∃ r : Int, e = .returned r ∧ (0 ≤ r ↔ p ∈ ps)) ∧ Ext w w' := by
 apply fC.vc
 have hsn := hs.n
 rw [List.length_map] at hsn
 intro w0 e0
 have x0 : Ext w w0 := (Ext.aq w).ab e0
 refine ⟨fun n x w' => ∃ j : Nat, x = j ∧ j + n = ps.length ∧ Ext w w' ∧ p ∉ ps.take j, ⟨ps.length, rfl, 0, rfl, by omega, x0, by simp⟩, ?_⟩
 rintro n us x w5 ⟨j, rfl, hj, x5, hnp⟩
 refine Br.mk (fun hb => ?_) (fun hb => ?_)
 ·replace hb := eN hb
  obtain ⟨y, hy⟩ := aN (l := ps) (i := j) (by omega)
  have hrd := hs.ext (x5.tr (Ext.dr _))
  refine ⟨hs.eV (i := (j : Int)) (by decide) (by omega) hb, y.1, y.2, hrd.aX (i := j) (r := rQ y) (by rw [List.getElem?_map, hy]; rfl), Br.mk (fun h1 => ?_) (fun h1 => ?_)⟩
  ·simp only [Bool.and_eq_true, beq_iff_eq] at h1
   have : p = y := Prod.ext h1.1 h1.2
   exact ⟨⟨_, rfl, fun _ => by rw [this]; exact List.mem_of_getElem? hy, fun _ => by omega⟩, x5.tr (Ext.dr _)⟩
  ·have wk : IntKind.wrap .i64 ((j : Int) + 1) = ((j + 1 : Nat) : Int) := by rw [wI]; omega
   refine ⟨n - 1, by omega, rfl, j + 1, wk, by omega, x5.tr (Ext.dr _), ?_⟩
   rw [List.take_add_one, hy]
   intro hm
   rcases List.mem_append.1 hm with hm | hm
   ·exact hnp hm
   ·simp only [Option.toList_some, List.mem_singleton] at hm
    subst hm
    simp at h1
 ·replace hb := eO hb
  rw [List.take_of_length_le (by omega)] at hnp
  exact ⟨⟨-1, rfl, fun h => by omega, fun h => absurd h hnp⟩, x5⟩
theorem qZ (s : Sl) (ps : List Po) (p : Po) (w : World) (hs : ba w s 2 (ps.map rQ)) (hn : ps.length ≤ 1000) :
  Calls Tryz.prog c5 #[s, pv p] w fun e w' => e = .returned (.bool (decide (p ∈ ps))) ∧ Ext w w' := by
 apply dX.vc
 intro w0 e0
 have z0 := dR e0
 have x0 : Ext w w0 := (Ext.aq w).ab e0
 refine (vJ s ps p w0 (hs.ext x0) hn).mono ?_
 rintro e w1 ⟨⟨r, rfl, hr⟩, x1⟩
 refine ⟨r, rfl, x1.k, ?_, x0.tr x1⟩
 have : decide (r ≥ 0) = decide (p ∈ ps) := by rw [decide_eq_decide]; exact hr
 rw [this]
theorem Gb {c:Ce} (hc: -1000000000<=c.1/\c.1<=1000000000) (hz: -1000000000<=c.2.2/\c.2.2<=1000000000):BH (pos c):=by
 unfold BH pos
 simp only
 omega
def q6 (l:List En) (c:Ce):Bool:=(kU (pos c)).all fun q=>decide (q ∈ l.map (·.1))
theorem yO {F : Nat → Prop} {w : World} {o t : Nat} {aa limit : Int} {T : Tb} {ch : List Cg} (h : WF F w o t aa limit T ch) (c : Ce) (hc : pW c) (hp : BH (pos c)) :
  Calls Tryz.prog ie #[.pointer (some ⟨o, 0, none⟩), mq c] w fun e w' => e = .returned (.bool (q6 T.2 c)) ∧ Ext w w' := by
 obtain ⟨F1, sc, hT, hR, hO, rfl⟩ := h
 apply fa.vc
 have hlen := hT.len
 intro w1 e1
 have z1 := dR e1
 have x1 : Ext w w1 := (Ext.aq w).ab e1
 clear e1
 refine ⟨_, (hR.ext x1).at 0 rfl, (yP (hT.ext x1)).mono ?_⟩
 rintro e w2 ⟨s', rfl, ho, x2⟩
 have z2 := x2.size
 have hrd : ba w2 s' 2 ((T.2.map (·.1)).map rQ) := by rw [List.map_map]; exact ho.rd (show 0 < 2 by decide)
 refine ⟨s', rfl, x2.k, (jA c hc w2).mono ?_⟩
 rintro e w4 ⟨rfl, x4⟩
 have z4 := x4.size
 refine ⟨_, _, rfl, x4.k, (xC (pos c) hp w4).mono ?_⟩
 rintro e w7 ⟨rfl, x7⟩
 have z7 := x7.size
 have x17 := x1.tr (x2.tr (x4.tr x7))
 unfold q6
 generalize pos c = p at *
 have hpl : (T.2.map (·.1)).length ≤ 1000 := by rw [List.length_map]; omega
 generalize T.2.map (·.1) = ps at *
 refine ⟨_, _, _, _, _, _, _, _, _, _, rfl, x7.k, fun n x w' => ∃ j : Nat, x = j ∧ j + n = 5 ∧ Ext w7 w' ∧ ∀ q ∈ (kU p).take j, q ∈ ps, ⟨5, rfl, 0, rfl, rfl, Ext.aq _, by simp⟩, ?_⟩
 rintro n us x w25 ⟨j, rfl, hj, x25, hall⟩
 have z25 := x25.size
 refine Br.mk (fun hb => ?_) (fun hb => ?_)
 ·replace hb := eN hb
  have hex : ∃ q : Po, (([p.1, p.2, .int .i64 (p.1 - 1), p.2, .int .i64 (p.1 + 1), p.2, p.1, .int .i64 (p.2 - 1), p.1, .int .i64 (p.2 + 1)] : List Value).drop (((j : Nat) : Int).toNat * 2)).take 2 = [.int .i64 q.1, .int .i64 q.2] ∧ (kU p)[j]? = some q := by
   have : j = 0 ∨ j = 1 ∨ j = 2 ∨ j = 3 ∨ j = 4 := by omega
   rcases this with rfl | rfl | rfl | rfl | rfl
   ·exact ⟨p, rfl, rfl⟩
   ·exact ⟨(p.1 - 1, p.2), rfl, rfl⟩
   ·exact ⟨(p.1 + 1, p.2), rfl, rfl⟩
   ·exact ⟨(p.1, p.2 - 1), rfl, rfl⟩
   ·exact ⟨(p.1, p.2 + 1), rfl, rfl⟩
  obtain ⟨q, hq1, hq2⟩ := hex
  refine ⟨⟨by omega, by omega⟩, q.1, q.2, hq1, fun w29 e29 w30 e30 => ?_⟩
  have x30 : Ext w25 w30 := ((Ext.aq _).ab e29).ah e30 (Nat.le_refl _)
  have z30 : w30.heap.size = w25.heap.size + 1 := by rw [e30, setRow_size, e29]; simp
  have xx : Ext w2 w30 := x4.tr (x7.tr (x25.tr x30))
  refine (qZ s' ps q w30 (hrd.ext xx) hpl).mono ?_
  rintro e w31 ⟨rfl, x31⟩
  have wk : IntKind.wrap .i64 ((j : Int) + 1) = ((j + 1 : Nat) : Int) := by rw [wI]; omega
  refine ⟨_, rfl, x31.k, x31.k, Br.mk (fun h1 => ?_) (fun h1 => ?_)⟩
  ·refine ⟨?_, x17.tr ((x25.tr x30).tr x31)⟩
   have hnq : q ∉ ps := by simpa using h1
   have : ((kU p).all fun q => decide (q ∈ ps)) = false := by
    rw [List.all_eq_false]
    exact ⟨q, List.mem_of_getElem? hq2, by simpa using hnq⟩
   rw [this]
  ·have hyq : q ∈ ps := by simpa using h1
   refine ⟨n - 1, by omega, rfl, j + 1, wk, by omega, (x25.tr x30).tr x31, ?_⟩
   rw [List.take_add_one, hq2]
   intro y hy
   rcases List.mem_append.1 hy with hy | hy
   ·exact hall y hy
   ·simp only [Option.toList_some, List.mem_singleton] at hy
    subst hy; exact hyq
 ·replace hb := eO hb
  refine ⟨?_, x17.tr x25⟩
  rw [List.take_of_length_le (show (kU p).length ≤ j by unfold kU; simp; omega)] at hall
  have : ((kU p).all fun q => decide (q ∈ ps)) = true := by
   rw [List.all_eq_true]
   exact fun q hq => by simpa using hall q hq
  rw [this]
end Go.Proofs.YtalpkjfpmdpbiaaGreatDoor
namespace Go.Proofs.YtalpkjfpmdpbiaaGreatDoor
open Go Go.Vc Go.RowKit Go.Proofs Go.bQ Go.aB Go.Code
section
variable {N F F':Nat->Prop} {w w' v v':World} {s1 s2 s3 s4:Sl} {T T':Tb} {ch ch':List Cg} {aa cap limit:Int} {o t a b m n k:Nat}
theorem WF.Jq (h:WF F w o t aa cap T ch) (hi:Iv m n T) (hm:m<=400000):Jd T:=by
 obtain ⟨F1,hT,-⟩:=h.table
 exact hT.Jq hi hm
theorem zl (h : WF F w o t aa limit T ch) (hW : T.1.l.length ≤ 1000000) (p : Po) :
  Calls Tryz.prog cQ #[.pointer (some ⟨t, 0, none⟩), pv p] w fun e w' => e = .returned (.int .i64 (wJ aa limit T.1 T.2 p).2) ∧ F8 F w o t aa limit (wJ aa limit T.1 T.2 p).1 ch w' := by
 obtain ⟨F1, hT, -, hres⟩ := h.table
 refine (zm hT hW p).mono ?_
 rintro e w' ⟨rfl, hr⟩
 exact ⟨rfl, hres hr⟩
theorem C2 (h : WF F w o t aa limit T ch) (c : Ce) (hc : pW c) :
  Calls Tryz.prog bc #[.pointer (some ⟨t, 0, none⟩), mq c] w fun e w' => e = .returned (.int .i64 (cD T.2 c)) ∧ Ext w w' := by
 obtain ⟨F1, hT, -⟩ := h.table
 exact wh hT c hc
theorem WF.fw (h : WF F w o t aa cap T ch) (hN : Fw N w) : Fw (Nf N F) w := fun i hi => ⟨fun q => by have := h.lt q; omega, hN i hi⟩
set_option maxRecDepth 100000 in
theorem WF.IP {F : Nat → Prop} {w : World} {T : Tb} {ch : List Cg} {aa limit : Int} {o t : Nat} (h : WF F w o t aa limit T ch) {w' : World} (hk : ∀ i, F i → w'.heap[i]? = w.heap[i]?) (c : Ce) (hc : pW c) :
  a8 Tryz.prog (.func (.func bc) #[.pointer (some ⟨t, 0, none⟩)] #[]) [mq c] w' fun e w'' => e = .returned (.int .i64 (cD T.2 c)) ∧ Ext w' w'' :=
 fc (by kernel_rfl) rfl (C2 (h.same hk) c hc)
end
theorem Lo.wv {w : World} {g : Nat} {cs : List Value} {τ : TypeId} (h : Row w g cs τ) : aj w (some ⟨g, 0, none⟩) 0 cs := h.aX (fun j hj => by rw [Nat.zero_add])
end Go.Proofs.YtalpkjfpmdpbiaaGreatDoor
