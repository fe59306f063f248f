import Derived.Test.YtalpkjfpmdpbiaaGreatDoorYQ
set_option linter.all false
namespace Go.Proofs.YtalpkjfpmdpbiaaGreatDoor
open Go Go.Vc Go.RowKit Go.Proofs Go.bQ Go.aB Go.Code Go.kW Go.mw
set_option maxRecDepth 100000
theorem CG {q:QS} {c:Ce} {t:Int} {x:Go.kW.It} (h:x ∈(cX q c t).1.l):x ∈ q.l\/x=(t,c):=by
 unfold cX at h
 split at h
 ·split at h
  ·exact .inl h
  ·rcases (fo _ _ _).1 h with rfl|h
   ·exact .inr rfl
   ·exact .inl ((kF _ _).subset h)
 ·split at h
  ·exact .inl h
  ·rcases (fo _ _ _).1 h with rfl|h
   ·exact .inr rfl
   ·exact .inl h
theorem CH {q:QS} {c:Ce} {t:Int} {x:Go.kW.It} (h:x ∈ q.l) (hc:x.2≠c):x ∈(cX q c t).1.l:=by
 unfold cX
 split
 ·split
  ·exact h
  ·exact (fo _ _ _).2 (.inr (List.mem_filter.2 ⟨h,by simpa using hc⟩))
 ·split
  ·exact h
  ·exact (fo _ _ _).2 (.inr h)
theorem Ev (q:QS) (c:Ce) (t:Int):(cX q c t).1.l.length<=q.l.length+1:=by
 unfold cX
 split
 ·split
  ·simp only;omega
  ·simp only [qu]
   have:=(kF q.l c).length_le
   omega
 ·split
  ·simp only;omega
  ·simp only [qu];omega
theorem Ew {q : QS} {c : Ce} {t : Int} (hr : (q.l.length : Int) < q.room) (h : ∀ x ∈ q.l, x.2 = c → t < x.1) : (t, c) ∈ (cX q c t).1.l := by
 unfold cX
 split
 ·rename_i was hw
  have := h _ (lF hw) rfl
  rw [if_neg (by simp only at this; omega)]
  exact (fo _ _ _).2 (.inl rfl)
 ·rw [if_neg (by omega)]
  exact (fo _ _ _).2 (.inl rfl)
theorem AQ {V : Ce → Int} {now : Int} {x : Go.kW.It} : ∀ (l : List Ce) {q : QS}, x ∈ (l.foldl (dV V now) q).l → x ∈ q.l ∨ ∃ n ∈ l, x = (now + ay (V n), n)
 | [], q, h => .inl h
 | n :: l, q, h => by
   rcases AQ l (q := dV V now q n) h with h | ⟨m, hm, h⟩
   ·rcases CG h with h | h
    ·exact .inl h
    ·exact .inr ⟨n, .head _, h⟩
   ·exact .inr ⟨m, .tail _ hm, h⟩
theorem BT {V : Ce → Int} {now : Int} {x : Go.kW.It} : ∀ (l : List Ce) {q : QS}, x ∈ q.l → (∀ n ∈ l, x.2 ≠ n) → x ∈ (l.foldl (dV V now) q).l
 | [], q, h, _ => h
 | n :: l, q, h, hn => BT l (q := dV V now q n) (CH h (hn n (.head _))) fun m hm => hn m (.tail _ hm)
theorem AR (V : Ce → Int) (now : Int) : ∀ (l : List Ce) (q : QS), (l.foldl (dV V now) q).l.length ≤ q.l.length + l.length
 | [], q => Nat.le_refl _
 | n :: l, q => by
   have h1 := AR V now l (dV V now q n)
   have h2 : (dV V now q n).l.length ≤ q.l.length + 1 := Ev q n _
   simp only [List.foldl_cons, List.length_cons]
   omega
theorem Ex (V : Ce → Int) (now : Int) : ∀ (l : List Ce) {q : QS}, sQ q → sQ (l.foldl (dV V now) q)
 | [], q, h => h
 | n :: l, q, h => Ex V now l (q := dV V now q n) (h.add n _)
theorem uniq {q:QS} (h:sQ q) {a b:Int} {c:Ce} (ha:(a,c)∈ q.l) (hb:(b,c)∈ q.l):a=b:=by
 have h1:=wG h.nodup ha
 rw [wG h.nodup hb]at h1
 exact (Option.some.inj h1).symm
def rK (c:Ce):Prop:=(3<=c.1/\c.1<=12)/\3<=c.2.2/\c.2.2<=12
theorem rK.pos {c:Ce} (h:rK c):pos c=(0,0):=by
 unfold rK at h
 unfold Go.bQ.pos
 exact Prod.ext (by show c.1 / 16=0;omega) (by show c.2.2 / 16=0;omega)
theorem qv (aa:Int) {c:Ce} (hm:rK c) (hy:fx c):V0 aa c=mu c.2.1 (ground aa c.1 c.2.2):=Hc aa hy (sP hm.pos)
theorem AS (aa : Int) {c : Ce} (hm : rK c) (hy : ¬ fx c) : V0 aa c = 0 ∨ c.2.1 < 0 ∧ V0 aa c = 1 := by
 have hp := sP hm.pos
 obtain ⟨e, he, h1⟩ := ((BU aa).h _).2 hp
 have h2 : V0 aa c = if c.2.1 < 0 then 1 else vF e.1 e.2.1 c := lG (xW aa) he h1
 rw [h2]
 split
 ·exact .inr ⟨by assumption, rfl⟩
 ·refine .inl ?_
  unfold vF
  rw [if_neg (by rw [fp]; exact fun q => hy q.1)]
theorem y3 {y g:Int} (hg:6<=g/\g<=14) (h:mu y g=3):y=g-1/\g<=9:=by
 unfold mu at h
 repeat' (split at h)
 all_goals omega
theorem Gl {y g:Int} (hg:6<=g/\g<=14) (h:kZ (mu y g)=true):y<=8:=by
 unfold mu at h
 repeat' (split at h)
 all_goals first|omega|exact absurd h (by decide)
theorem AT {y g:Int} (hg:6<=g/\g<=14) (h:g<=y):mu y g=0\/mu y g=8/\y<=8:=by
 unfold mu
 repeat' split
 all_goals omega
theorem BV {y g:Int} (hg:6<=g/\g<=14) (h:0<=y/\y<g):(mu y g=1\/mu y g=2\/mu y g=3)/\(y=0->mu y g=1):=by
 unfold mu
 repeat' split
 all_goals omega
theorem y4 (aa x z:Int):6<=ground aa x z/\ground aa x z<=14:=⟨(iK aa x z).1,uG aa x z⟩
theorem tC {aa : Int} {c : Ce} (hm : rK c) (h : V0 aa c = 3) : c.2.1 ≤ 8 ∧ V0 aa (aS c) = 2 := by
 by_cases hy : fx c
 ·rw [qv aa hm hy] at h
  have hg := y4 aa c.1 c.2.2
  obtain ⟨h1, h2⟩ := y3 hg h
  have hl : fx (aS c) := by unfold fx aS at *; simp only; omega
  refine ⟨by omega, ?_⟩
  rw [qv aa (c := aS c) hm hl]
  show mu (c.2.1 - 1) (ground aa c.1 c.2.2) = 2
  unfold mu
  rw [if_neg (by omega), if_neg (by omega), if_pos (by omega)]
 ·rcases AS aa hm hy with q | ⟨-, q⟩ <;> (rw [q] at h; omega)
theorem AU {aa : Int} {c : Ce} (hm : rK c) (h : kZ (V0 aa c) = true) : c.2.1 ≤ 8 := by
 by_cases hy : fx c
 ·rw [qv aa hm hy] at h
  exact Gl (y4 aa c.1 c.2.2) h
 ·rcases AS aa hm hy with q | ⟨-, q⟩ <;> (rw [q] at h; exact absurd h (by decide))
theorem Ey {aa:Int} {c:Ce} (hm:rK c) (h:9<=c.2.1):ay (V0 aa c)=0:=by
 unfold ay
 rw [if_neg fun q=>by have:=(tC hm q).1;omega,if_neg fun q=>by have:=AU hm q;omega]
theorem CI {b:Int} (h:b=1\/b=2\/b=3):gn b=false:=by
 rcases h with rfl|rfl|rfl<;>decide
structure Vh (aa X Z h:Int) (V:Ce->Int):Prop where
 out:∀n:Ce,(n.1≠X\/n.2.2≠Z)->V n=V0 aa n
 low:∀y,y<h->V (X,y,Z)=V0 aa (X,y,Z)
 pt:V (X,h,Z)=3
 up:∀y,h<y->V (X,y,Z)=0\/V (X,y,Z)=8/\y<=9
def AV (X Z:Int):Prop:=(5<=X/\X<=10)/\5<=Z/\Z<=10
def stat (aa X Z g:Int) (x:Ce):Prop:=rK x/\V0 aa x=3/\(x.1≠X\/x.2.2≠Z\/x.2.1<g)
theorem Vh.stat {aa X Z h g : Int} {V : Ce → Int} (hV : Vh aa X Z h V) (hg : g ≤ h) {x : Ce} (hx : stat aa X Z g x) : de V x = [] := by
 obtain ⟨hm, h3, ho⟩ := hx
 have hl := (tC hm h3).2
 have key : V x = 3 ∧ V (aS x) = 2 := by
  obtain ⟨x1, x2, x3⟩ := x
  by_cases hc : x1 = X ∧ x3 = Z
  ·obtain ⟨rfl, rfl⟩ := hc
   have hy : x2 < h := by simp only [ne_eq, not_true_eq_false, false_or] at ho; omega
   exact ⟨(hV.low x2 hy).trans h3, (hV.low (x2 - 1) (by omega)).trans hl⟩
  ·have hc : x1 ≠ X ∨ x3 ≠ Z := by omega
   exact ⟨(hV.out (x1, x2, x3) hc).trans h3, (hV.out (aS (x1, x2, x3)) hc).trans hl⟩
 unfold de qw
 rw [if_pos key.1, key.2, if_neg (by decide)]
section
variable {M:Sm} {V:Ce->Int} {c:Ce} {O:Ce->Bool}
theorem CJ (hs:Hs M.T.2 V) (hp:pos c=(0,0)) (hn:de V c=[]):fO O M c=M:=by
 have hf:cD M.T.2=V:=funext hs.v
 unfold fO
 rw [if_neg (by rw [AP hs hp];decide),hf,hn]
 unfold kD
 rw [hf,hn]
 simp
theorem lH (hs : Hs M.T.2 V) : ∀ (l : List Ce), (∀ x ∈ l, pos x = (0, 0) ∧ de V x = []) → l.foldl (fO O) M = M
 | [], _ => rfl
 | x :: l, h => by
   rw [List.foldl_cons, CJ hs (h x (.head _)).1 (h x (.head _)).2]
   exact lH hs l fun y hy => h y (.tail _ hy)
end
end Go.Proofs.YtalpkjfpmdpbiaaGreatDoor
namespace Go.Proofs.YtalpkjfpmdpbiaaGreatDoor
open Go Go.Vc Go.RowKit Go.Proofs Go.bQ Go.aB Go.Code Go.kW Go.mw
set_option maxRecDepth 100000
theorem Cn {q : QS} (now : Int) (hl : q.l.length ≤ 64) : mv q now 64 = ({ q with l := q.l.dropWhile fun y => decide (y.1 ≤ now) }, (q.l.takeWhile fun y => decide (y.1 ≤ now)).map (·.2)) := by
 have e := List.takeWhile_append_dropWhile (p := fun y : Go.kW.It => decide (y.1 ≤ now)) (l := q.l)
 have hlen : (q.l.takeWhile fun y => decide (y.1 ≤ now)).length ≤ q.l.length := by
  have := congrArg List.length e
  rw [List.length_append] at this
  omega
 have hc : db q.l now 64 = (q.l.takeWhile fun y => decide (y.1 ≤ now)).length := by
  unfold db
  have : (64 : Int).toNat = 64 := rfl
  omega
 unfold mv
 rw [hc]
 have h1 : q.l.take (q.l.takeWhile fun y => decide (y.1 ≤ now)).length = q.l.takeWhile fun y => decide (y.1 ≤ now) := (congrArg (List.take _) e.symm).trans (List.take_left' rfl)
 have h2 : q.l.drop (q.l.takeWhile fun y => decide (y.1 ≤ now)).length = q.l.dropWhile fun y => decide (y.1 ≤ now) := (congrArg (List.drop _) e.symm).trans (List.drop_left' rfl)
 rw [h1, h2]
theorem tg {b:Int} (h:0<ay b):b=3\/kZ b=true/\ay b=5:=by
 unfold ay at*
 split at h
 ·rename_i q;exact .inl q
 ·split at h
  ·rename_i q1 q;exact .inr ⟨q,by rw [if_neg q1,if_pos q]⟩
  ·omega
abbrev Ck:Ce->Bool:=fun _=>false
structure Cm (aa X Y Z g h e : Int) (n : Nat) (M : Sm) : Prop where
 st : St 64 M n
 vh : Vh aa X Z h (cD M.T.2)
 ok : sQ M.q
 now : M.now = 2 * (Y - h) + e
 len : (M.q.l.length : Int) ≤ 1 + 14 * max (10 - h) 0
 own : (2 * (Y - h) + 2, (X, h, Z)) ∈ M.q.l
 it : ∀ x ∈ M.q.l, x.2 = (X, h, Z) ∨ x.2 = (X, h - 1, Z) ∧ 2 * (Y - h) + 5 ≤ x.1 ∨ stat aa X Z g x.2 ∨ 2 * Y - 11 ≤ x.1 ∧ (x.2.1 ≠ X ∨ x.2.2.2 ≠ Z ∨ h < x.2.2.1)
theorem St.hs {bud:Int} {M:Sm} {n:Nat} (h:St bud M n):Hs M.T.2 (cD M.T.2):=by
 obtain ⟨V,hV⟩:=h.v
 have e:cD M.T.2=V:=funext hV.h.v
 rw [e]
 exact hV.h
section
variable {aa X Y Z g h e:Int} {n:Nat} {M:Sm}
theorem Cm.small (hF : Cm aa X Y Z g h e n M) (hh : 6 ≤ h) : M.q.l.length ≤ 64 := by
 have := hF.len
 omega
theorem Cm.wait (hF : Cm aa X Y Z g h 0 n M) (hg : 6 ≤ g) (hgh : g < h) (hY : h ≤ Y ∧ Y ≤ 22) (O : Ce → Bool) : Cm aa X Y Z g h 1 (n + 2560) (ig O M) := by
 have hnow := hF.now
 have hn : dP M = 2 * (Y - h) + 1 := by unfold dP; omega
 have hq := Cn (q := M.q) (dP M) (hF.small (by omega))
 have hst := hF.st.tick (by decide) O
 have hdue : ∀ x ∈ ju M, pos x = (0, 0) ∧ de (cD M.T.2) x = [] := fun x hx => by
  unfold ju at hx
  rw [hF.st.b, hq] at hx
  obtain ⟨y, hy, rfl⟩ := List.mem_map.1 hx
  have h1 := (kI hF.ok.sorted (dP M)).1 y hy
  have h2 : y ∈ M.q.l := (List.takeWhile_sublist _).subset hy
  have hs : stat aa X Z g y.2 := by
   rcases hF.it y h2 with q | ⟨-, q⟩ | q | ⟨q, -⟩
   ·obtain ⟨t, c⟩ := y
    simp only at q
    subst q
    have := uniq hF.ok h2 hF.own
    simp only at h1
    omega
   ·omega
   ·exact q
   ·omega
  exact ⟨hs.1.pos, hF.vh.stat (by omega) hs⟩
 have ht : ig O M = aT M := by
  unfold ig
  exact lH (M := aT M) hF.st.hs _ hdue
 have hql : (aT M).q = { M.q with l := M.q.l.dropWhile fun y => decide (y.1 ≤ dP M) } := by
  show (mv M.q (dP M) M.aO).1 = _
  rw [hF.st.b, hq]
 have hsub : (M.q.l.dropWhile fun y => decide (y.1 ≤ dP M)).Sublist M.q.l := List.dropWhile_sublist _
 rw [ht] at hst ⊢
 refine ⟨hst, hF.vh, ?_, ?_, ?_, ?_, ?_⟩
 ·show sQ (mv M.q (dP M) M.aO).1
  exact hF.ok.due _ _
 ·show dP M = _
  exact hn
 ·rw [hql]
  have := hsub.length_le
  have := hF.len
  simp only
  omega
 ·rw [hql]
  have e := List.takeWhile_append_dropWhile (p := fun y : Go.kW.It => decide (y.1 ≤ dP M)) (l := M.q.l)
  have ho := hF.own
  rw [← e, List.mem_append] at ho
  rcases ho with ho | ho
  ·have := (kI hF.ok.sorted (dP M)).1 _ ho
   simp only at this
   omega
  ·exact ho
 ·rw [hql]
  exact fun x hx => hF.it x (hsub.subset hx)
theorem jt {V:Ce->Int} {c n:Ce} {b:Int} (h:n≠c):cK V c b n=V n:=ei h
theorem Vh.step {V : Ce → Int} (hV : Vh aa X Z h V) (hX : AV X Z) (hg : g = ground aa X Z) (hgh : g < h) (hY : h ≤ 22) :
  (V (X, h - 1, Z) = 0 ∨ V (X, h - 1, Z) = 8 ∧ h ≤ 9) ∧ Vh aa X Z (h - 1) (cK (cK V (X, h, Z) (V (X, h - 1, Z))) (X, h - 1, Z) 3) := by
 have hgr := y4 aa X Z
 have hm : rK (X, h - 1, Z) := by unfold AV at hX; unfold rK; simp only; omega
 have hb : V (X, h - 1, Z) = 0 ∨ V (X, h - 1, Z) = 8 ∧ h ≤ 9 := by
  rw [hV.low (h - 1) (by omega), qv aa hm (by unfold fx; simp only; omega)]
  rcases AT (y := h - 1) hgr (by omega) with q | ⟨q, q2⟩
  ·exact .inl q
  ·exact .inr ⟨q, by omega⟩
 refine ⟨hb, fun n hn => ?_, fun y hy => ?_, dN _ _ _, fun y hy => ?_⟩
 ·rw [jt (by rintro rfl; simp at hn), jt (by rintro rfl; simp at hn)]
  exact hV.out n hn
 ·rw [jt (by intro q; have := congrArg (·.2.1) q; simp only at this; omega), jt (by intro q; have := congrArg (·.2.1) q; simp only at this; omega)]
  exact hV.low y (by omega)
 ·rw [jt (by intro q; have := congrArg (·.2.1) q; simp only at this; omega)]
  by_cases q : y = h
  ·subst q
   rw [dN]
   rcases hb with q | ⟨q, q2⟩
   ·exact .inl q
   ·exact .inr ⟨q, q2⟩
  ·rw [jt (by intro q; have := congrArg (·.2.1) q; simp only at this; omega)]
   exact hV.up y (by omega)
def cls (aa X Z g h:Int) (n:Ce) (d:Int):Prop:=stat aa X Z g n\/d=5/\h<=9/\(n.1≠X\/n.2.2≠Z\/h-1<n.2.1)
theorem Ae {V:Ce->Int} {k:Int} (hV:Vh aa X Z k V) (h:Int) {n:Ce} (hm:rK n) (hn:n.1≠X\/n.2.2≠Z) (hy:h<=n.2.1+1) (hd:0<ay (V n)):cls aa X Z g h n (ay (V n))/\h<=9:=by
 rw [hV.out n hn]at hd ⊢
 rcases tg hd with q|⟨q,q2⟩
 ·have:=(tC hm q).1
  exact ⟨.inl ⟨hm,q,by omega⟩,by omega⟩
 ·have:=AU hm q
  exact ⟨.inr ⟨q2,by omega,by omega⟩,by omega⟩
theorem IY {V : Ce → Int} (hV : Vh aa X Z h V) (hX : AV X Z) (hb : V (X, h - 1, Z) = 0 ∨ V (X, h - 1, Z) = 8 ∧ h ≤ 9) {n : Ce} (hn : n ∈ bW (cK V (X, h, Z) (V (X, h - 1, Z))) (X, h, Z)) :
  h ≤ 9 ∧ (n = (X, h - 1, Z) ∧ ay (cK V (X, h, Z) (V (X, h - 1, Z)) n) = 5 ∨ cls aa X Z g h n (ay (cK V (X, h, Z) (V (X, h - 1, Z)) n))) := by
 obtain ⟨hm, hd⟩ := List.mem_filter.1 hn
 have hd := of_decide_eq_true hd
 unfold AV at hX
 rcases List.mem_cons.1 hm with rfl | hm
 ·rw [dN] at hd ⊢
  rcases hb with q | ⟨q, q2⟩
  ·rw [q] at hd; exact absurd hd (by decide)
  ·rw [q]
   exact ⟨q2, .inr (.inr ⟨by decide, q2, .inr (.inr (by simp only; omega))⟩)⟩
 ·rw [jt (wE hm)] at hd ⊢
  unfold fL aS ma at hm
  simp only [List.mem_cons, List.not_mem_nil, or_false] at hm
  have sd : ∀ n : Ce, rK n → (n.1 ≠ X ∨ n.2.2 ≠ Z) → n.2.1 = h → 0 < ay (V n) → h ≤ 9 ∧ (n = (X, h - 1, Z) ∧ ay (V n) = 5 ∨ cls aa X Z g h n (ay (V n))) := fun n h1 h2 h3 h4 => by
   obtain ⟨a, b⟩ := Ae (g := g) hV h h1 h2 (by omega) h4
   exact ⟨b, .inr a⟩
  rcases hm with rfl | rfl | rfl | rfl | rfl | rfl
  ·exact sd _ (by unfold rK; simp only; omega) (.inl (by simp only; omega)) rfl hd
  ·exact sd _ (by unfold rK; simp only; omega) (.inl (by simp only; omega)) rfl hd
  ·rcases hb with q | ⟨q, q2⟩
   ·rw [q] at hd; exact absurd hd (by decide)
   ·exact ⟨q2, .inl ⟨rfl, by rw [q]; decide⟩⟩
  ·rcases hV.up (h + 1) (by omega) with q | ⟨q, q2⟩
   ·rw [q] at hd; exact absurd hd (by decide)
   ·exact ⟨by omega, .inr (.inr ⟨by rw [q]; decide, by omega, .inr (.inr (by simp only; omega))⟩)⟩
  ·exact sd _ (by unfold rK; simp only; omega) (.inr (by simp only; omega)) rfl hd
  ·exact sd _ (by unfold rK; simp only; omega) (.inr (by simp only; omega)) rfl hd
theorem IZ {V : Ce → Int} (hV : Vh aa X Z (h - 1) V) (hX : AV X Z) (hg : g = ground aa X Z) (hgh : g < h) {n : Ce} (hn : n ∈ fL (X, h - 1, Z)) (hd : 0 < ay (V n)) :
  h ≤ 10 ∧ (n = (X, h - 1 - 1, Z) ∧ ay (V n) = 5 ∨ cls aa X Z g h n (ay (V n))) := by
 have hgr := y4 aa X Z
 unfold AV at hX
 unfold fL aS ma at hn
 simp only [List.mem_cons, List.not_mem_nil, or_false] at hn
 have sd : ∀ n : Ce, rK n → (n.1 ≠ X ∨ n.2.2 ≠ Z) → n.2.1 = h - 1 → 0 < ay (V n) → h ≤ 10 ∧ (n = (X, h - 1 - 1, Z) ∧ ay (V n) = 5 ∨ cls aa X Z g h n (ay (V n))) := fun n h1 h2 h3 h4 => by
  obtain ⟨a, b⟩ := Ae (g := g) hV h h1 h2 (by omega) h4
  exact ⟨by omega, .inr a⟩
 rcases hn with rfl | rfl | rfl | rfl | rfl | rfl
 ·exact sd _ (by unfold rK; simp only; omega) (.inl (by simp only; omega)) rfl hd
 ·exact sd _ (by unfold rK; simp only; omega) (.inl (by simp only; omega)) rfl hd
 ·have hm : rK (X, h - 1 - 1, Z) := by unfold rK; simp only; omega
  have hd : 0 < ay (V (X, h - 1 - 1, Z)) := hd
  show h ≤ 10 ∧ ((X, h - 1 - 1, Z) = (X, h - 1 - 1, Z) ∧ ay (V (X, h - 1 - 1, Z)) = 5 ∨ cls aa X Z g h (X, h - 1 - 1, Z) (ay (V (X, h - 1 - 1, Z))))
  rw [hV.low (h - 1 - 1) (by omega)] at hd ⊢
  rcases tg hd with q | ⟨q, q2⟩
  ·have h8 := (tC hm q).1
   simp only at h8
   refine ⟨by omega, .inr (.inl ⟨hm, q, .inr (.inr ?_)⟩)⟩
   rw [qv aa hm (by unfold fx; simp only; omega)] at q
   have h9 := (y3 hgr q).1
   simp only at h9
   show h - 1 - 1 < g
   omega
  ·have h8 := AU hm q
   simp only at h8
   exact ⟨by omega, .inl ⟨rfl, q2⟩⟩
 ·have e : h - 1 + 1 = h := by omega
  have hd : 0 < ay (V (X, h - 1 + 1, Z)) := hd
  show h ≤ 10 ∧ ((X, h - 1 + 1, Z) = (X, h - 1 - 1, Z) ∧ ay (V (X, h - 1 + 1, Z)) = 5 ∨ cls aa X Z g h (X, h - 1 + 1, Z) (ay (V (X, h - 1 + 1, Z))))
  rw [e] at hd ⊢
  rcases hV.up h (by omega) with q | ⟨q, q2⟩
  ·rw [q] at hd; exact absurd hd (by decide)
  ·exact ⟨by omega, .inr (.inr ⟨by rw [q]; decide, q2, .inr (.inr (by simp only; omega))⟩)⟩
 ·exact sd _ (by unfold rK; simp only; omega) (.inr (by simp only; omega)) rfl hd
 ·exact sd _ (by unfold rK; simp only; omega) (.inr (by simp only; omega)) rfl hd
theorem Co {V : Ce → Int} {c : Ce} {b : Int} (hs : Hs M.T.2 V) (hp : pos c ∈ di) (hy : fx c) (hb : aC b = true) :
  ∃ l' ch', dU M c b = { M with T := (M.T.1, l'), ch := ch', q := cL (cK V c b) M.now M.q c } ∧ Hs l' (cK V c b) := by
 obtain ⟨e1, h1⟩ := hs.set hp hy hb
 have hf : cD (cc M.T.2 c b).1 = cK V c b := funext h1.v
 refine ⟨_, yN M.T.2 M.ch c b, ?_, h1⟩
 unfold dU
 rw [if_pos e1, hf]
theorem qP (hX:AV X Z) (y:Int):rK (X,y,Z):=by unfold AV at hX;unfold rK;simp only;omega
theorem move {V : Ce → Int} (hs : Hs M.T.2 V) (hV : Vh aa X Z h V) (hX : AV X Z) (hy : 1 ≤ h ∧ h ≤ 22) (hb : V (X, h - 1, Z) = 0 ∨ V (X, h - 1, Z) = 8 ∧ h ≤ 9) :
  ∃ l' ch', fO Ck M (X, h, Z) = { M with T := (M.T.1, l'), ch := ch', q := cL (cK (cK V (X, h, Z) (V (X, h - 1, Z))) (X, h - 1, Z) 3) M.now (cL (cK V (X, h, Z) (V (X, h - 1, Z))) M.now M.q (X, h, Z)) (X, h - 1, Z) } ∧
   Hs l' (cK (cK V (X, h, Z) (V (X, h - 1, Z))) (X, h - 1, Z) 3) := by
 have hf : cD M.T.2 = V := funext hs.v
 have hr := AP hs (qP hX h).pos
 have hyl : gn (V (X, h - 1, Z)) = true := by
  rcases hb with q | ⟨q, -⟩ <;> (rw [q]; decide)
 have hnx : de (cD M.T.2) (X, h, Z) = [((X, h, Z), V (X, h - 1, Z)), ((X, h - 1, Z), 3)] := by
  rw [hf]
  unfold de qw
  rw [if_pos hV.pt]
  exact if_pos hyl
 have hh : ¬ kD Ck M (X, h, Z) = true := by unfold kD; rw [show Ck (aS (X, h, Z)) = false from rfl, Bool.and_false, Bool.and_false]; decide
 obtain ⟨l1, ch1, a1, a2⟩ := Co (M := M) (c := (X, h, Z)) (b := V (X, h - 1, Z)) hs (sP (qP hX h).pos) (by unfold fx; simp only; omega) (by rcases hb with q | ⟨q, -⟩ <;> rw [q] <;> first | exact IK | exact may8)
 have hc1 : aM M ((X, h, Z), V (X, h - 1, Z)) = dU M (X, h, Z) (V (X, h - 1, Z)) := by
  unfold aM
  rw [if_neg (by
   simp only
   rw [hf, hV.pt]
   rcases hb with q | ⟨q, -⟩ <;> (rw [q]; decide))]
 have e1 := hc1.trans a1
 obtain ⟨l2, ch2, b1, b2⟩ := Co (M := { M with T := (M.T.1, l1), ch := ch1, q := cL (cK V (X, h, Z) (V (X, h - 1, Z))) M.now M.q (X, h, Z) }) (c := (X, h - 1, Z)) (b := 3) a2 (sP (qP hX _).pos) (by unfold fx; simp only; omega) IL
 have hc2 : ∀ N : Sm, N.T.2 = l1 → aM N ((X, h - 1, Z), 3) = dU N (X, h - 1, Z) 3 := fun N hN => by
  unfold aM
  rw [if_neg (by
   simp only
   rw [hN, a2.v, jt (by intro q; have := congrArg (·.2.1) q; simp only at this; omega)]
   rcases hb with q | ⟨q, -⟩ <;> (rw [q]; decide))]
 refine ⟨l2, ch2, ?_, b2⟩
 unfold fO
 rw [if_neg (by rw [hr]; decide), if_neg hh, hnx]
 show aM (aM M ((X, h, Z), V (X, h - 1, Z))) ((X, h - 1, Z), 3) = _
 rw [e1, hc2 _ rfl, b1]
theorem Cm.step (hF : Cm aa X Y Z g h 1 n M) (hX : AV X Z) (hg : g = ground aa X Z) (hgh : g < h) (hY : h ≤ Y ∧ Y ≤ 22) : Cm aa X Y Z g (h - 1) 0 (n + 2560) (ig Ck M) := by
 have hgr := y4 aa X Z
 have hnow := hF.now
 have hn : dP M = 2 * (Y - h) + 2 := by unfold dP; omega
 have hsm := hF.small (by omega)
 have hq := Cn (q := M.q) (dP M) hsm
 have hst := hF.st.tick (by decide) Ck
 have hs := hF.st.hs
 have hdm : ju M = (M.q.l.takeWhile fun y => decide (y.1 ≤ dP M)).map (·.2) := by
  unfold ju
  rw [hF.st.b, hq]
 have hql : (aT M).q = { M.q with l := M.q.l.dropWhile fun y => decide (y.1 ≤ dP M) } := by
  show (mv M.q (dP M) M.aO).1 = _
  rw [hF.st.b, hq]
 have e := List.takeWhile_append_dropWhile (p := fun y : Go.kW.It => decide (y.1 ≤ dP M)) (l := M.q.l)
 obtain ⟨sl1, sl2⟩ := kI hF.ok.sorted (dP M)
 have hown : (2 * (Y - h) + 2, (X, h, Z)) ∈ M.q.l.takeWhile fun y => decide (y.1 ≤ dP M) := by
  have ho := hF.own
  rw [← e, List.mem_append] at ho
  rcases ho with ho | ho
  ·exact ho
  ·have := sl2 _ ho
   simp only at this
   omega
 have hcl : ∀ x ∈ ju M, x = (X, h, Z) ∨ stat aa X Z g x := fun x hx => by
  rw [hdm] at hx
  obtain ⟨y, hy, rfl⟩ := List.mem_map.1 hx
  have h1 := sl1 y hy
  rcases hF.it y ((List.takeWhile_sublist _).subset hy) with q | ⟨-, q⟩ | q | ⟨q, -⟩
  ·exact .inl q
  ·omega
  ·exact .inr q
  ·omega
 have hnd : (ju M).Nodup := by
  rw [hdm]
  exact ((List.takeWhile_sublist _).map _).nodup hF.ok.nodup
 have hcm : (X, h, Z) ∈ ju M := by
  rw [hdm]
  exact List.mem_map.2 ⟨_, hown, rfl⟩
 obtain ⟨A, B, hAB⟩ := List.append_of_mem hcm
 rw [hAB, List.nodup_append] at hnd
 have hA : ∀ x ∈ A, stat aa X Z g x := fun x hx => (hcl x (by rw [hAB]; exact List.mem_append.2 (.inl hx))).resolve_left fun q => hnd.2.2 x hx _ (.head _) q
 have hB : ∀ x ∈ B, stat aa X Z g x := fun x hx => (hcl x (by rw [hAB]; exact List.mem_append.2 (.inr (.tail _ hx)))).resolve_left fun q => (List.nodup_cons.1 hnd.2.1).1 (q ▸ hx)
 have hvh := hF.vh
 obtain ⟨hb, hV2⟩ := hF.vh.step hX hg hgh (by omega)
 obtain ⟨l2, ch2, m1, m2⟩ := move (M := aT M) hs hF.vh hX (by omega) hb
 have w1 := fun n hn => IY (g := g) (n := n) hF.vh hX hb hn
 have w2 := fun n hn hd => IZ (n := n) hV2 hX hg hgh hn hd
 generalize hVe : cD M.T.2 = V at *
 generalize hV1 : cK V (X, h, Z) (V (X, h - 1, Z)) = V1 at *
 generalize hV2e : cK V1 (X, h - 1, Z) 3 = V2 at *
 have ht : ig Ck M = { aT M with T := ((aT M).T.1, l2), ch := ch2, q := cL V2 (aT M).now (cL V1 (aT M).now (aT M).q (X, h, Z)) (X, h - 1, Z) } := by
  unfold ig
  rw [hAB, List.foldl_append, List.foldl_cons, lH (M := aT M) hs A fun x hx => ⟨(hA x hx).1.pos, hvh.stat (by omega) (hA x hx)⟩, m1]
  exact lH m2 B fun x hx => ⟨(hB x hx).1.pos, hV2.stat (by omega) (hB x hx)⟩
 have hnw : (aT M).now = 2 * (Y - h) + 2 := hn
 rw [hnw] at ht
 rw [ht] at hst ⊢
 have hat : V2 (X, h - 1, Z) = 3 := hV2.pt
 have hwk : bW V2 (X, h - 1, Z) = (X, h - 1, Z) :: (fL (X, h - 1, Z)).filter fun n => decide (0 < ay (V2 n)) := by
  unfold bW
  rw [List.filter_cons_of_pos (by rw [hat]; decide)]
 have hq1 : ∀ x ∈ (aT M).q.l, 2 * (Y - h) + 2 < x.1 ∧ x ∈ M.q.l := fun x hx => by
  rw [hql] at hx
  exact ⟨by rw [← hn]; exact sl2 x hx, (List.dropWhile_sublist _).subset hx⟩
 have hq' : ∀ x ∈ (cL V1 (2 * (Y - h) + 2) (aT M).q (X, h, Z)).l, x ∈ (aT M).q.l ∨ ∃ n ∈ bW V1 (X, h, Z), x = (2 * (Y - h) + 2 + ay (V1 n), n) := fun x hx => AQ _ hx
 have hok1 : sQ (aT M).q := hF.ok.due _ _
 have hok' : sQ (cL V1 (2 * (Y - h) + 2) (aT M).q (X, h, Z)) := Ex _ _ _ hok1
 have hok2 : sQ (cL V2 (2 * (Y - h) + 2) (cL V1 (2 * (Y - h) + 2) (aT M).q (X, h, Z)) (X, h - 1, Z)) := Ex _ _ _ hok'
 have hl1 : (aT M).q.l.length + 1 ≤ M.q.l.length := by
  rw [hql]
  have h1 := congrArg List.length e
  rw [List.length_append] at h1
  have h2 := List.length_pos_of_mem hown
  simp only
  omega
 have hl' : (cL V1 (2 * (Y - h) + 2) (aT M).q (X, h, Z)).l.length ≤ (aT M).q.l.length + (bW V1 (X, h, Z)).length := AR _ _ _ _
 have hl2 : (cL V2 (2 * (Y - h) + 2) (cL V1 (2 * (Y - h) + 2) (aT M).q (X, h, Z)) (X, h - 1, Z)).l.length ≤ (cL V1 (2 * (Y - h) + 2) (aT M).q (X, h, Z)).l.length + (bW V2 (X, h - 1, Z)).length := AR _ _ _ _
 have hw1 := oq V1 (X, h, Z)
 have hw2 := oq V2 (X, h - 1, Z)
 have hroom : (cL V1 (2 * (Y - h) + 2) (aT M).q (X, h, Z)).room = 4096 := by
  obtain ⟨V', hV'⟩ := hF.st.v
  exact (sB _ _ _ _).trans hV'.q.1
 have hownlt : ∀ x ∈ (cL V1 (2 * (Y - h) + 2) (aT M).q (X, h, Z)).l, x.2 = (X, h - 1, Z) → 2 * (Y - h) + 2 + 2 < x.1 := fun x hx hxe => by
  rcases hq' x hx with q | ⟨m, hm, q⟩
  ·obtain ⟨-, q2⟩ := hq1 x q
   have e2 := congrArg (·.2.1) hxe
   have e1 := congrArg (·.1) hxe
   have e3 := congrArg (·.2.2) hxe
   simp only at e1 e2 e3
   rcases hF.it x q2 with q | ⟨-, q⟩ | q | ⟨-, q⟩
   ·rw [hxe] at q
    have := congrArg (·.2.1) q
    simp only at this
    omega
   ·omega
   ·have := q.2.2
    omega
   ·omega
  ·subst q
   simp only at hxe
   subst hxe
   obtain ⟨-, q⟩ := w1 _ hm
   have h5 : ay (V1 (X, h - 1, Z)) = 5 := by
    rcases q with ⟨-, q⟩ | q | ⟨q, -⟩
    ·exact q
    ·have := q.2.2
     simp only at this
     omega
    ·exact q
   simp only [h5]
   omega
 refine ⟨hst, ?_, hok2, ?_, ?_, ?_, ?_⟩
 ·rw [show cD l2 = V2 from funext m2.v]
  exact hV2
 ·show (aT M).now = _
  rw [hnw]
  omega
 ·have hlen := hF.len
  simp only
  by_cases h11 : 11 ≤ h
  ·have z1 : bW V1 (X, h, Z) = [] := List.eq_nil_iff_forall_not_mem.2 fun x hx => by have := (w1 x hx).1; omega
   have z2 : (fL (X, h - 1, Z)).filter (fun n => decide (0 < ay (V2 n))) = [] := List.eq_nil_iff_forall_not_mem.2 fun x hx => by
    obtain ⟨hm, hd⟩ := List.mem_filter.1 hx
    have := (w2 x hm (of_decide_eq_true hd)).1
    omega
   rw [z1] at hl'
   rw [hwk, z2] at hl2
   simp only [List.length_nil, List.length_singleton] at hl' hl2
   omega
  ·omega
 ·show (2 * (Y - (h - 1)) + 2, (X, h - 1, Z)) ∈ ((bW V2 (X, h - 1, Z)).foldl (dV V2 (2 * (Y - h) + 2)) (cL V1 (2 * (Y - h) + 2) (aT M).q (X, h, Z))).l
  rw [hwk, List.foldl_cons]
  refine BT _ ?_ fun m hm => Ne.symm (wE (List.mem_filter.1 hm).1)
  have h1 := Ew (c := (X, h - 1, Z)) (t := 2 * (Y - h) + 2 + 2) (q := cL V1 (2 * (Y - h) + 2) (aT M).q (X, h, Z)) (by rw [hroom]; omega) hownlt
  unfold dV
  rw [hat, pk, show 2 * (Y - (h - 1)) + 2 = 2 * (Y - h) + 2 + 2 from by omega]
  exact h1
 ·intro x hx
  have clsok : ∀ m d, cls aa X Z g h m d → x = (2 * (Y - h) + 2 + d, m) → x.2 = (X, h - 1, Z) ∨ x.2 = (X, h - 1 - 1, Z) ∧ 2 * (Y - (h - 1)) + 5 ≤ x.1 ∨ stat aa X Z g x.2 ∨ 2 * Y - 11 ≤ x.1 ∧ (x.2.1 ≠ X ∨ x.2.2.2 ≠ Z ∨ h - 1 < x.2.2.1) := fun m d hc he => by
   subst he
   rcases hc with q | ⟨q1, q2, q3⟩
   ·exact .inr (.inr (.inl q))
   ·exact .inr (.inr (.inr ⟨by simp only; omega, q3⟩))
  rcases AQ (bW V2 (X, h - 1, Z)) hx with q | ⟨m, hm, q⟩
  ·rcases hq' x q with q | ⟨m, hm, q⟩
   ·obtain ⟨q1, q2⟩ := hq1 x q
    rcases hF.it x q2 with q | ⟨q, -⟩ | q | ⟨q, q'⟩
    ·obtain ⟨t, c⟩ := x
     simp only at q
     subst q
     have := uniq hF.ok q2 hF.own
     simp only at q1
     omega
    ·exact .inl q
    ·exact .inr (.inr (.inl q))
    ·exact .inr (.inr (.inr ⟨q, by omega⟩))
   ·obtain ⟨-, q'⟩ := w1 m hm
    rcases q' with ⟨q1, -⟩ | q'
    ·exact .inl (by rw [q]; exact q1)
    ·exact clsok m _ q' q
  ·rw [hwk] at hm
   rcases List.mem_cons.1 hm with rfl | hm
   ·exact .inl (by rw [q])
   ·obtain ⟨hm, hd⟩ := List.mem_filter.1 hm
    obtain ⟨-, q'⟩ := w2 m hm (of_decide_eq_true hd)
    rcases q' with ⟨q1, q2⟩ | q'
    ·refine .inr (.inl ⟨by rw [q]; exact q1, ?_⟩)
     rw [q, q2]
     simp only
     omega
    ·exact clsok m _ q' q
end
end Go.Proofs.YtalpkjfpmdpbiaaGreatDoor
namespace Go.Proofs.YtalpkjfpmdpbiaaGreatDoor
open Go Go.Vc Go.RowKit Go.Proofs Go.bQ Go.aB Go.Code Go.kW Go.mw
set_option maxRecDepth 100000
def Aq (X Z g:Int) (c:Ce):Prop:=c.1=X/\c.2.2=Z/\0<=c.2.1/\c.2.1<=g
structure Dw (g:Int) (W:Int->Int):Prop where
 y:∀y,0<=y->y<=g->gn (W y)=false
 z:W 0≠3
section
variable {X Z g:Int} {W:Int->Int} {V:Ce->Int} {M:Sm} {n:Nat} {c:Ce}
theorem Fy (hW:Dw g W) (hk:∀c,Aq X Z g c->V c=W c.2.1) (c:Ce):∀x ∈ de V c,¬Aq X Z g x.1:=by
 have ny:∀d,gn (V d)=true->¬Aq X Z g d:=fun d hd hc=>by
  rw [hk d hc,hW.y _ hc.2.2.1 hc.2.2.2]at hd
  cases hd
 have nz:∀d,V d=0->¬Aq X Z g d:=fun d hd=>ny d (by rw [hd];decide)
 intro x hx
 unfold de at hx
 split at hx
 ·rename_i h3
  unfold qw at hx
  split at hx
  ·rename_i hl
   have hlow:=ny _ hl
   rcases List.mem_cons.1 hx with rfl|hx
   ·intro hc
    refine hlow ⟨hc.1,hc.2.1,?_,?_⟩
    ·show 0<=c.2.1-1
     have h1:=hc.2.2.1
     simp only at h1
     by_cases q:c.2.1=0
     ·exfalso
      have:=hk c hc
      rw [h3,q]at this
      exact hW.z this.symm
     ·omega
    ·show c.2.1-1<=g
     have:=hc.2.2.2
     simp only at this
     omega
   ·rw [List.mem_singleton.1 hx]
    exact hlow
  ·cases hx
 ·split at hx
  ·rename_i hw
   have hc:¬Aq X Z g c:=ny c (by unfold gn;rw [hw,Bool.or_true])
   unfold fJ at hx
   split at hx
   ·rw [List.mem_singleton.1 hx];exact hc
   ·split at hx
    ·rw [List.mem_singleton.1 hx];exact hc
    ·split at hx
     ·rename_i hl
      rw [List.mem_singleton.1 hx]
      exact nz _ hl
     ·split at hx
      ·cases hx
      ·obtain ⟨m,hm,rfl⟩:=List.mem_map.1 hx
       exact nz _ (of_decide_eq_true (List.mem_filter.1 hm).2)
  ·cases hx
theorem Fz (hs:Hs M.T.2 (cD M.T.2)) (hk:∀c,Aq X Z g c->cD M.T.2 c=W c.2.1) (hc:¬Aq X Z g c) (b:Int):∀d,Aq X Z g d->cD (dU M c b).T.2 d=W d.2.1:=fun d hd=>by
 show cD (cc M.T.2 c b).1 d=_
 rcases Cj hs c b with ⟨-,-,h1⟩|⟨-,-,h1⟩
 ·rw [h1.v,ei (by rintro rfl;exact hc hd)]
  exact hk d hd
 ·rw [h1.v]
  exact hk d hd
theorem Lv.self (h:Lv M V):Hs M.T.2 (cD M.T.2):=by
 rw [show cD M.T.2=V from funext h.h.v]
 exact h.h
theorem tf : ∀ (l : List Go.mw.Cg) {M : Sm} {V : Ce → Int}, Lv M V → (∀ x ∈ l, ¬ Aq X Z g x.1) → (∀ c, Aq X Z g c → cD M.T.2 c = W c.2.1) → ∀ c, Aq X Z g c → cD (l.foldl aM M).T.2 c = W c.2.1
 | [], M, V, _, _, hk => hk
 | x :: l, M, V, hL, hl, hk => by
   obtain ⟨V', hL'⟩ := hL.change x
   refine tf l hL' (fun y hy => hl y (.tail _ hy)) ?_
   unfold aM
   split
   ·exact hk
   ·exact Fz hL.self hk (hl x (.head _)) _
theorem GO (hW : Dw g W) (hL : Lv M V) (hk : ∀ c, Aq X Z g c → cD M.T.2 c = W c.2.1) (c : Ce) : ∀ d, Aq X Z g d → cD (fO Ck M c).T.2 d = W d.2.1 := by
 unfold fO
 split
 ·exact hk
 ·rw [if_neg (by unfold kD; rw [show Ck (aS c) = false from rfl, Bool.and_false, Bool.and_false]; decide)]
  exact tf _ hL (Fy hW hk c) hk
theorem Ad (hW : Dw g W) : ∀ (l : List Ce) {M : Sm} {V : Ce → Int}, zC l → Lv M V → (∀ c, Aq X Z g c → cD M.T.2 c = W c.2.1) → ∀ d, Aq X Z g d → cD (l.foldl (fO Ck) M).T.2 d = W d.2.1
 | [], M, V, _, _, hk => hk
 | x :: l, M, V, hn, hL, hk => by
   obtain ⟨V', hL'⟩ := hL.IS Ck (hn x (.head _))
   exact Ad hW l (fun y hy => hn y (.tail _ hy)) hL' (GO hW hL hk x)
structure Iz (X Z g:Int) (W:Int->Int) (n:Nat) (M:Sm):Prop where
 st:St 64 M n
 k:∀c,Aq X Z g c->cD M.T.2 c=W c.2.1
theorem Iz.tick (hW : Dw g W) (h : Iz X Z g W n M) : Iz X Z g W (n + 2560) (ig Ck M) := by
 refine ⟨h.st.tick (by decide) Ck, ?_⟩
 obtain ⟨V, hV⟩ := h.st.v
 exact Ad hW (ju M) (M := aT M) hV.due.1 hV.due.2 h.k
abbrev Wg (aa X Z g:Int):Int->Int:=fun y=>if y=g then 3 else V0 aa (X,y,Z)
theorem Ik {aa:Int} (hX:AV X Z) (hg:g=ground aa X Z):Dw g (Wg aa X Z g):=by
 have hgr:=y4 aa X Z
 have key:∀y,0<=y->y<g->(V0 aa (X,y,Z)=1\/V0 aa (X,y,Z)=2\/V0 aa (X,y,Z)=3)/\(y=0->V0 aa (X,y,Z)=1):=fun y h1 h2=>by
  rw [qv aa (qP hX y) (by unfold fx;simp only;omega),<-hg]
  exact BV (by omega) ⟨h1,h2⟩
 refine ⟨fun y h1 h2=> ?_,?_⟩
 ·show gn (if y=g then 3 else V0 aa (X,y,Z))=false
  split
  ·decide
  ·exact CI (key y h1 (by omega)).1
 ·show (if (0:Int)=g then 3 else V0 aa (X,0,Z))≠3
  rw [if_neg (by omega),(key 0 (Int.le_refl _) (by omega)).2 rfl]
  decide
theorem Cm.rest {aa Y : Int} (hF : Cm aa X Y Z g g 0 n M) : Iz X Z g (Wg aa X Z g) n M := by
 refine ⟨hF.st, fun c hc => ?_⟩
 obtain ⟨c1, c2, c3⟩ := c
 obtain ⟨rfl, rfl, h1, h2⟩ := hc
 show _ = if c2 = g then 3 else V0 aa (c1, c2, c3)
 by_cases q : c2 = g
 ·rw [if_pos q, q]
  exact hF.vh.pt
 ·rw [if_neg q]
  exact hF.vh.low c2 (by simp only at h2; omega)
end
section
variable {F F':Nat->Prop} {w w':World} {s o t:Nat} {M M':Sm} {occ:Value} {O:Ce->Bool}
theorem GP (J : Nat → Sm → Prop) (hJ : ∀ k M, k < 100 → J k M → zC (ju M) ∧ nC M 600000 ∧ (1 ≤ M.aO ∧ M.aO ≤ 64) ∧ J (k + 1) (ig O M)) (h : SF F w s o t M occ) (hO : Oc occ O F w) (h0 : J 0 M) :
  Calls Tryz.prog oG #[.pointer (some ⟨s, 0, none⟩), (100:Int)] w fun e w' => ∃ (r : Int) (k : Nat) (M' : Sm), e = .returned r ∧ J k M' ∧ jf F w s o t M' occ w' := by
 apply mU.vc
 refine ⟨fun n x wr => ∃ (k : Nat) (M' : Sm) (F' : Nat → Prop), x = k ∧ k + n = 100 ∧ J k M' ∧ SF F' wr s o t M' occ ∧ ao F F' w wr, ⟨100, 0, M, F, rfl, rfl, h0, h, ao.refl _ _⟩, ?_⟩
 rintro n us x wr ⟨k, M', F', rfl, hkn, hJk, hS, hT⟩
 obtain ⟨g, m, qs, hq, hqok, ⟨sd, hr⟩, hsub, -⟩ := hS.queue
 refine ⟨_, hr.at 0 rfl, (Q.E2 hq).mono ?_⟩
 rintro e w7 ⟨rfl, x7⟩
 refine ⟨_, rfl, Br.mk (fun hp => Br.mk (fun hm => ?_) (fun hm => ⟨_, k, M', rfl, hJk, F', hS.ext x7, hT.trans (ao.ar x7)⟩)) (fun hp => ⟨_, k, M', rfl, hJk, F', hS.ext x7, hT.trans (ao.ar x7)⟩)⟩
 have hk : k < 100 := by
  replace hm := eN hm
  split at hm <;> omega
 obtain ⟨a1, a2, a3, a4⟩ := hJ k M' hk hJk
 refine (kK (hS.ext x7) ((hO.eK hT).ext x7) a1 a2 a3).mono ?_
 rintro e w9 ⟨rfl, F2, hS2, hT2⟩
 have wk : IntKind.wrap .i64 ((k : Int) + 1) = ((k + 1 : Nat) : Int) := by rw [wI]; omega
 exact ⟨_, rfl, n - 1, by omega, k + 1, _, F2, wk, by omega, a4, hS2, (hT.trans (ao.ar x7)).trans hT2⟩
end
end Go.Proofs.YtalpkjfpmdpbiaaGreatDoor
