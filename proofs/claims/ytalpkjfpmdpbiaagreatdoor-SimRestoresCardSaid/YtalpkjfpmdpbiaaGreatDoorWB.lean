import Derived.Test.YtalpkjfpmdpbiaaGreatDoorWA
set_option linter.all false
namespace Go.Proofs.YtalpkjfpmdpbiaaGreatDoor
open Go Go.Vc Go.RowKit Go.Proofs Go.bY Go.aD Go.Code
structure RG (P : Nat → Prop) (w : World) (s : Sl) (ch : List Cg) : Prop where
 r : RdK w s 4 (ch.map vW)
 p : ch ≠ [] → ∀ g, s.ay = some g → P g
section
variable{P P':Nat->Prop}{w w' v v':World}{s s1 s2 s3 s4:Sl}{T:Tb}{ch:List Cg}{ae cap:Int}
theorem RG.ext (h : RG P w s ch) (x : Ext w w') : RG P w' s ch := ⟨h.r.ext x, h.p⟩
theorem RG.same (h : RG P w s ch) (hk : ∀ i, P i → i < w.heap.size → w'.heap[i]? = w.heap[i]? ∧ P' i) : RG P' w' s ch := by
 have hb : ch.map vW ≠ [] → ch ≠ [] := fun q e => q (by rw [e]; rfl)
 have hb' : ch ≠ [] → ch.map vW ≠ [] := fun q e => q (by simpa using e)
 exact ⟨RdK.zh h.r fun hne g hg => (hk g (h.p (hb hne) g hg) (RdK.jP h.r (by decide) hne hg)).1, fun hne g hg => (hk g (h.p hne g hg) (RdK.jP h.r (by decide) (hb' hne) hg)).2⟩
theorem RG.nil : RG P w ⟨none, 0, 0⟩ [] := ⟨⟨rfl, (fun r hr => by cases hr), fun i r hi => by simp at hi⟩, fun h => absurd rfl h⟩
theorem RG.n (h : RG P w s ch) : s.n = ch.length := by have := h.r.n; rwa [List.length_map] at this
theorem RG.own {B : Nat} (h : ag B cV 4 w s (ch.map vW)) (hP : ∀ i, B ≤ i → P i) : RG P w s ch := ⟨h.rd (by decide), fun _ g hg => hP g (h.own.lt hg).1⟩
theorem RG.Bi (h : RG P w s ch) (x : Ext w v) (b : Nat) : RG (Bx P w.heap.size b) v s ch := h.same fun _ hp hi => ⟨x.heap hi, hp, .inl hi⟩
theorem RG.box {a b g : Nat} {c : Array Value} (h : RG (Bx P a b) v s ch) (e : v' = v.setRow g c) (hg : a ≤ g ∧ g < b) : RG (Bx P a b) v' s ch := h.same fun i hp _ => ⟨by rw [e, setRow_other _ _ _ _ (by have := hp.2; omega)], hp⟩
theorem RG.out {a b : Nat} (h : RG (Bx P a b) v s ch) : RG P v s ch := h.same fun _ hp _ => ⟨rfl, hp.1⟩
abbrev KO(ae cap:Int)(d:Dk)(s1 s2 s3 s4:Sl):Value:=.agg #[ae,cap,d.room,d.cS,d.wait,s1,s2,s3,s4]
abbrev LC(ae cap:Int)(d:Dk)(s1 s2 s3 s4:Sl):List Value:=[.int .i64 ae,.int .i64 cap,.int .i64 d.room,.int .i64 d.cS,.int .i64 d.wait,.slice s1.a s1.n s1.c,.slice s2.a s2.n s2.c,.slice s3.a s3.n s3.c,.slice s4.a s4.n s4.c]
theorem BK (ae limit room : Int) (w : World) : Calls Tryz.prog vg #[ae, limit, room] w fun e w' => ∃ s1 s2 s3 : Sl, e = .returned (KO ae (min (max limit 1) 16) (fW room) s1 s2 s3 ⟨none, 0, 0⟩) ∧ RT P w' (fW room, []) s1 s2 s3 ∧ Ext w w' := by
 apply uG.vc
 intro w0 e0
 have x0 : Ext w w0 := (Ext.ao _).aa e0
 have z0 := cL e0
 clear e0
 refine (Bw (P := Bx P w.heap.size w0.heap.size) ae limit room w0).mono ?_
 rintro e w1 ⟨s1, s2, s3, rfl, h1, x1⟩
 refine ⟨_, _, _, _, _, s1, s2, s3, rfl, x1.k, fun w10 e10 => ⟨s1, s2, s3, rfl, (h1.box e10 ⟨by omega, by omega⟩).out, (x0.tr x1).af e10 (Nat.le_refl _)⟩⟩
end
end Go.Proofs.YtalpkjfpmdpbiaaGreatDoor
namespace Go.Proofs.YtalpkjfpmdpbiaaGreatDoor
open Go Go.Vc Go.RowKit Go.Proofs Go.bY Go.aD Go.Code
theorem Bg {l : List En} (hg : yZ l) (c : Ce) (b : Int) : yZ (aX l c b).1 := by
 unfold aX
 split
 ·exact hg
 ·split
  ·exact hg
  ·split
   ·exact hg
   ·intro e he
    rcases List.mem_append.1 he with he | he
    ·exact hg e ((List.eraseIdx_sublist ..).subset he)
    ·simp only [Option.mem_toList, Option.map_eq_some_iff] at he
     obtain ⟨y, hy, rfl⟩ := he
     exact DV (hg y (List.mem_of_getElem? hy)).1 (hg y (List.mem_of_getElem? hy)).2 c b
theorem Ir (l : List En) (c : Ce) (b : Int) : (aX l c b).1.length ≤ l.length := by
 unfold aX
 split
 ·exact Nat.le_refl _
 ·split
  ·exact Nat.le_refl _
  ·split
   ·exact Nat.le_refl _
   ·generalize (aU (fun e : En => e.1 == pos c) l).toNat = k
    rw [List.length_append, List.length_eraseIdx]
    cases hk : l[k]? with
    | none => have := List.getElem?_eq_none_iff.1 hk; rw [if_neg (by omega)]; simp
    | some e => have := (List.getElem?_eq_some_iff.1 hk).1; rw [if_pos this]; simp; omega
theorem DW {T : Tb} (h : Ex T) (c : Ce) (b : Int) : Ex (T.1, (aX T.2 c b).1) := ⟨h.d, h.f, Bg h.g c b, Nat.le_trans (Ir ..) h.l⟩
abbrev Ji (P : Nat → Prop) (w : World) (ae cap : Int) (T : Tb) (ch : List Cg) (n : Int) (e : Ending) (w' : World) : Prop :=
 ∃ s1' s2' s3' s4' : Sl, e = .returned (.tuple #[KO ae cap T.1 s1' s2' s3' s4', n]) ∧ RT P w' T s1' s2' s3' ∧ RG P w' s4' ch ∧ Ext w w'
section
variable{P P':Nat->Prop}{w w' v v':World}{s s1 s2 s3 s4:Sl}{T:Tb}{ch:List Cg}{ae cap:Int}
set_option maxRecDepth 100000 in
theorem Bh (h : RT P w T s1 s2 s3) (hg : RG P w s4 ch) (hP : Fw P w) (ho : Ex T) (hn : ch.length ≤ 1000000) (c : Ce) (hc : lx c) (b : Int) :
  Calls Tryz.prog uT #[KO ae cap T.1 s1 s2 s3 s4, iR c, b] w (Ji P w ae cap (T.1, (aX T.2 c b).1) (mV T.2 ch c b) (aX T.2 c b).2) := by
 apply (tA.vc (a0_5 := s1) (a0_6 := s2) (a0_7 := s3) (a0_8 := s4))
 intro w0 e0 w1 e1 w2 e2
 have x2 : Ext w w2 := (((Ext.ao _).aa e0).aa e1).aa e2
 have z0 := cL e0
 have z1 : w1.heap.size = w.heap.size + 2 := by rw [e1]; simp [z0]
 have z2 : w2.heap.size = w.heap.size + 3 := by rw [e2]; simp [z1]
 clear e0 e1 e2
 have hT2 := h.Bi x2 w2.heap.size
 have hG2 := hg.Bi x2 w2.heap.size
 have hP2 := hP.bx x2 (Nat.le_refl _)
 refine (wF (ae := ae) (cap := cap) hT2 ho c hc).mono ?_
 rintro e w3 ⟨rfl, x3⟩
 have z3 := x3.size
 refine ⟨_, rfl, x3.k, x3.k, x3.k, (Bj (ae := ae) (cap := cap) (hT2.ext x3) (hP2.ext x3) ho c hc b).mono ?_⟩
 rintro e w5 ⟨t1, t2, t3, rfl, h5, x5⟩
 have z5 := x5.size
 refine ⟨_, _, _, _, _, t1, t2, t3, _, rfl, x5.k, x5.k, x5.k, fun w15 e15 w16 e16 w17 e17 => ?_⟩
 have x16 : Ext w5 w16 := ((Ext.ao _).aa e15).af e16 (Nat.le_refl _)
 have z16 := rB e15 e16
 have z17 := vj e17
 have h17 := (h5.ext x16).box e17 ⟨by omega, by omega⟩
 have g17 := (hG2.ext (x3.tr (x5.tr x16))).box e17 ⟨by omega, by omega⟩
 have x17 : Ext w w17 := (x2.tr (x3.tr (x5.tr x16))).af e17 (Nat.le_refl _)
 clear e15 e16 e17
 have stay : mV T.2 ch c b = ch → ∀ {v : World} {cs : Array Value}, v = w17.setRow w1.heap.size cs → Ji P w ae cap (T.1, (aX T.2 c b).1) (mV T.2 ch c b) (aX T.2 c b).2 (.returned (.tuple #[KO ae cap T.1 t1 t2 t3 s4, .int .i64 (aX T.2 c b).2])) v := by
  intro ec v cs ev
  rw [ec]
  exact ⟨t1, t2, t3, s4, rfl, (h17.box ev ⟨by omega, by omega⟩).out, (g17.box ev ⟨by omega, by omega⟩).out, x17.af ev (by omega)⟩
 refine Br.mk (fun q => Br.mk (fun q2 => ?_) (fun q2 => fun w26 e26 => ?_)) (fun q => fun w27 e27 => ?_)
 ·simp only [beq_iff_eq] at q
  simp only [bne_iff_ne] at q2
  have ec : mV T.2 ch c b = ch ++ [(c, b)] := by unfold mV; rw [if_pos ⟨q, q2⟩]
  rw [ec]
  have hn4 := g17.n
  have h0 : ag w17.heap.size cV 4 w17 ⟨none, 0, 0⟩ [] := ag.nil
  have ha := h0.np (bytes := 32) (more := ch.map vW) (Nat.le_refl _) (fun r hr => by obtain ⟨y, -, rfl⟩ := List.mem_map.1 hr; rfl) (fun r hr => by obtain ⟨y, -, rfl⟩ := List.mem_map.1 hr; exact Gb _ _ _ _) (by simp only [List.length_map]; omega) (by simp only [List.length_map]; omega)
  rw [List.length_map, ← hn4] at ha
  obtain ⟨hp, hres⟩ := ha
  refine ⟨(ch.map vW).flatten, RdK.flat g17.r (by decide), hp, fun s19 w20 hr20 => ?_⟩
  obtain ⟨ho20, hn20, x20, -, -⟩ := hres s19 w20 hr20
  have x20 : Ext w17 w20 := x20
  have z20 := x20.size
  have hn19 : s19.n = ch.length := by have := (ag.rd ho20 (by decide)).n; simpa using this
  refine ⟨x20.k, x20.k, x20.k, x20.k, fun w21 e21 => ?_⟩
  subst e21
  obtain ⟨hp8, hres8⟩ := ho20.ly (bytes := 32) (news := vW (c, b)) (.cells #[c.1, c.2.1, c.2.2, b] cV) z20 rfl (Gb _ _ _ _) (by omega) (by omega)
  refine ⟨hp8, fun s22 w23 hr23 => ?_⟩
  obtain ⟨f8, ho8, hn8, x8, -, -⟩ := hres8 s22 w23 hr23
  have xa := Ext.al w20 (.cells #[c.1, c.2.1, c.2.2, b] cV)
  have x823 : Ext w17 w23 := Below.trans x20 (Below.mono x8 (Nat.le_refl _))
  have x8w : Ext w w23 := x17.tr x823
  have kp : ∀ j, j < w17.heap.size → w23.heap[j]? = (w20.alloc (.cells #[c.1, c.2.1, c.2.2, b] cV)).heap[j]? := fun j hj => by rw [x8.block j hj, xa.k]
  have z23 := x823.size
  refine ⟨kp _ (by omega), kp _ (by omega), kp _ (by omega), kp _ (by omega), f8, fun w24 e24 w25 e25 => ?_⟩
  have x25 := (x8w.af e24 (Nat.le_refl _)).af e25 (by omega)
  have ho25 : ag w17.heap.size cV 4 w25 s22 ((ch ++ [(c, b)]).map vW) := by
   refine ag.aW (rows := (ch ++ [(c, b)]).map vW) (by rw [List.map_append]; simpa using ho8) fun j hj => ?_
   have hjB := (ho8.own.lt hj).1
   rw [e25, setRow_other _ _ _ _ (by omega), e24, setRow_other _ _ _ _ (by omega)]
  exact ⟨t1, t2, t3, s22, rfl, (((h17.ext x823).box e24 ⟨by omega, by omega⟩).box e25 ⟨by omega, by omega⟩).out, RG.own ho25 fun i hi => hP i (by omega), x25⟩
 ·simp only [bne_eq_false_iff_eq] at q2
  exact stay (by unfold mV; rw [if_neg fun h => h.2 q2]) e26
 ·simp only [beq_eq_false_iff_ne] at q
  exact stay (by unfold mV; rw [if_neg fun h => q h.1]) e27
end
end Go.Proofs.YtalpkjfpmdpbiaaGreatDoor
