import Derived.Test.YtalpkjfpmdpbiaaGreatDoorLib
set_option linter.all false
namespace Go.aB
open Go Go.Vc
abbrev Rn:=Int × Int
def aH (l:List Rn):List Int:=l.flatMap fun r=>List.replicate r.1.toNat r.2
def dh (out:List Rn) (r:Rn):List Rn:=
 if r.1<1 then out else
 match out.getLast? with
 |some q=>if q.2=r.2 then out.dropLast++ [(q.1+r.1,q.2)]else out++ [r]
 |none=>out++ [r]
def bN (c:List Int):List Rn:=c.foldl (fun o b=>dh o (1,b)) []
def aF (l:List Rn):Int:=(l.map (·.1)).sum
inductive Nm:List Rn->Prop
 |nil:Nm []
 |snoc (l:List Rn) (r:Rn) (h:Nm l) (h1:1<=r.1) (h2:∀q,l.getLast? =some q->q.2≠r.2):Nm (l++ [r])
theorem fZ {o:List Rn} {r:Rn} (h:r.1<1):dh o r=o:=by unfold dh;rw [if_pos h]
theorem cY {l : List Rn} {q r : Rn} (h1 : 1 ≤ r.1) (e : q.2 = r.2) : dh (l ++ [q]) r = l ++ [(q.1 + r.1, q.2)] := by
 unfold dh
 have hl : (l ++ [q]).getLast? = some q := by simp
 rw [if_neg (by omega), hl]
 simp [e]
theorem bL {l:List Rn} {r:Rn} (h1:1<=r.1) (h2:∀q,l.getLast? =some q->q.2≠r.2):dh l r=l++ [r]:=by
 unfold dh
 rw [if_neg (by omega)]
 split
 ·rename_i q hq
  rw [if_neg (h2 q hq)]
 ·rfl
theorem k8 (l:List Rn):l=[]\/∃m q,l=m++ [q]:=by
 rcases List.eq_nil_or_concat l with h|⟨m,q,h⟩
 ·exact .inl h
 ·exact .inr ⟨m,q,by simpa using h⟩
theorem C9 (o : List Rn) {a c b : Int} (ha : 1 ≤ a) (hc : 1 ≤ c) : dh (dh o (a, b)) (c, b) = dh o (a + c, b) := by
 have hac : 1 ≤ a + c := by omega
 rcases k8 o with rfl | ⟨m, q, rfl⟩
 ·rw [bL (l := []) (r := (a, b)) ha (by simp), bL (l := []) (r := (a + c, b)) hac (by simp), cY (q := (a, b)) (r := (c, b)) hc rfl]
 ·by_cases e : q.2 = b
  ·rw [cY (r := (a, b)) ha e, cY (r := (a + c, b)) hac e, cY (q := (q.1 + a, q.2)) (r := (c, b)) hc e]
   simp [Int.add_assoc]
  ·have h2 : ∀ x : Int, ∀ p, (m ++ [q]).getLast? = some p → p.2 ≠ ((x, b) : Rn).2 := by
    intro x p hp
    simp at hp; subst hp; exact e
   rw [bL (r := (a, b)) ha (h2 a), bL (r := (a + c, b)) hac (h2 _), cY (q := (a, b)) (r := (c, b)) hc rfl]
theorem zx (o : List Rn) (b : Int) : ∀ n : Nat, (List.replicate n b).foldl (fun o b => dh o (1, b)) o = dh o ((n : Int), b)
 | 0 => by rw [fZ (by simp)]; rfl
 | n + 1 => by
   rw [List.replicate_succ', List.foldl_append, zx o b n]
   show dh (dh o ((n : Int), b)) (1, b) = _
   rcases Nat.eq_zero_or_pos n with rfl | hn
   ·rw [fZ (r := (((0 : Nat) : Int), b)) (by simp)]; rfl
   ·rw [C9 o (by omega) (by omega)]; rfl
theorem GG (c d:List Int):bN (c++d)=d.foldl (fun o b=>dh o (1,b)) (bN c):=by unfold bN;rw [List.foldl_append]
theorem qi (c : List Int) (r : Rn) : dh (bN c) r = bN (c ++ List.replicate r.1.toNat r.2) := by
 rw [GG, zx]
 rcases Int.lt_or_le r.1 1 with h | h
 ·rw [fZ h, fZ (by show ((r.1.toNat : Nat) : Int) < 1; omega)]
 ·rw [show ((r.1.toNat : Nat) : Int) = r.1 from by omega]
theorem Nm.push {o : List Rn} (h : Nm o) (r : Rn) : Nm (dh o r) := by
 rcases Int.lt_or_le r.1 1 with h1 | h1
 ·rw [fZ h1]; exact h
 ·cases h with
  | nil => rw [bL h1 (by simp)]; exact .snoc _ _ .nil h1 (by simp)
  | snoc l q hl hq h2 =>
    by_cases e : q.2 = r.2
    ·rw [cY h1 e]
     exact .snoc _ _ hl (by show 1 ≤ q.1 + r.1; omega) h2
    ·have h3 : ∀ p, (l ++ [q]).getLast? = some p → p.2 ≠ r.2 := by
      intro p hp; simp at hp; subst hp; exact e
     rw [bL h1 h3]
     exact .snoc _ _ (.snoc _ _ hl hq h2) h1 h3
theorem uL (c : List Int) : Nm (bN c) := by
 have : ∀ (c : List Int) (o : List Rn), Nm o → Nm (c.foldl (fun o b => dh o (1, b)) o) := by
  intro c
  induction c with
  | nil => intro o h; exact h
  | cons b c ih => intro o h; exact ih _ (h.push _)
 exact this c [] .nil
theorem cT (l m:List Rn):aH (l++m)=aH l++aH m:=by unfold aH;rw [List.flatMap_append]
theorem dH (r:Rn):aH [r]=List.replicate r.1.toNat r.2:=by simp [aH]
theorem Nm.fix {l : List Rn} (h : Nm l) : bN (aH l) = l := by
 induction h with
 | nil => rfl
 | snoc l r hl h1 h2 ih =>
   rw [cT, dH, ← qi, ih, bL h1 h2]
theorem Nm.pos {l:List Rn} (h:Nm l):∀r ∈ l,1<=r.1:=by
 induction h with
 |nil=>simp
 |snoc l r hl h1 h2 ih=>
  intro q hq
  rcases List.mem_append.1 hq with hq|hq
  ·exact ih q hq
  ·simp at hq;rw [hq];exact h1
theorem Bc {o : List Rn} (h : Nm o) (r : Rn) : aH (dh o r) = aH o ++ List.replicate r.1.toNat r.2 := by
 rcases Int.lt_or_le r.1 1 with h1 | h1
 ·rw [fZ h1, show r.1.toNat = 0 from by omega]; simp
 ·cases h with
  | nil => rw [bL h1 (by simp), cT, dH]
  | snoc l q hl hq h2 =>
    by_cases e : q.2 = r.2
    ·rw [cY h1 e, cT, cT, dH, dH]
     show _ ++ List.replicate (q.1 + r.1).toNat q.2 = _
     rw [show (q.1 + r.1).toNat = q.1.toNat + r.1.toNat from by omega, ← List.replicate_append_replicate, e]
     simp
    ·rw [bL h1 (by intro p hp; simp at hp; subst hp; exact e), cT, dH]
theorem iL (c : List Int) : aH (bN c) = c := by
 have : ∀ (c : List Int) (o : List Rn), Nm o → aH (c.foldl (fun o b => dh o (1, b)) o) = aH o ++ c := by
  intro c
  induction c with
  | nil => intro o h; simp
  | cons b c ih => intro o h; rw [List.foldl_cons, ih _ (h.push _), Bc h]; simp
 rw [bN, this c [] .nil]; rfl
theorem zy (l m:List Rn):aF (l++m)=aF l+aF m:=by simp [aF]
theorem bI {l:List Rn} (h:∀r ∈ l,0<=r.1):aF l=((aH l).length:Nat):=by
 induction l with
 |nil=>rfl
 |cons r l ih=>
  have:=ih fun q hq=>h q (.tail _ hq)
  have hr:=h r (.head _)
  simp only [aF,List.map_cons,List.sum_cons]at this ⊢
  rw [this]
  simp [aH]
  omega
theorem gF (c:List Int):aF (bN c)=(c.length:Nat):=by
 rw [bI fun r hr=>by have:=(uL c).pos r hr;omega,iL]
theorem Nm.H0 {l:List Rn} (h:Nm l):l.length<=(aH l).length:=by
 induction h with
 |nil=>simp
 |snoc l r hl h1 h2 ih=>rw [cT,dH];simp;omega
theorem jE (c:List Int):(bN c).length<=c.length:=by
 have:=(uL c).H0
 rwa [iL]at this
end Go.aB
namespace Go.aB
theorem GH {l : List Rn} (h : ∀ r ∈ l, 0 ≤ r.1) {q : Rn} (hq : q ∈ l) : q.1 ≤ aF l := by
 induction l with
 | nil => cases hq
 | cons r l ih =>
   have hr := h r (.head _)
   have hl : 0 ≤ aF l := by rw [bI fun q hq => h q (.tail _ hq)]; omega
   have e : aF (r :: l) = r.1 + aF l := by simp [aF]
   rw [e]
   rcases List.mem_cons.1 hq with rfl | hq
   ·omega
   ·have := ih (fun q hq => h q (.tail _ hq)) hq; omega
theorem gm {c : List Int} {q : Rn} (hq : q ∈ bN c) : 1 ≤ q.1 ∧ q.1 ≤ (c.length : Nat) := by
 have h := (uL c).pos
 refine ⟨h q hq, ?_⟩
 rw [← gF]
 exact GH (fun r hr => by have := h r hr; omega) hq
def vU (c:List Int) (a b:Int):List Int:=(c.take b.toNat).drop a.toNat
theorem EW (c : List Int) (n : Nat) (x a b : Int) (ha : 0 ≤ a) (hb : 0 ≤ b) :
  vU (c ++ List.replicate n x) a b = vU c a b ++ List.replicate (min b (c.length + n : Nat) - max a (c.length : Nat)).toNat x := by
 unfold vU
 rw [List.take_append, List.drop_append, List.take_replicate, List.drop_replicate, List.length_take]
 congr 2
 omega
end Go.aB
namespace Go.aB
def qF (c:List Int) (a b x:Int):List Int:=c.mapIdx fun i y=>if a<=(i:Int)/\(i:Int)<b then x else y
theorem Da (c:List Int) (a b x:Int):(qF c a b x).length=c.length:=by simp [qF]
theorem Be (c:List Int) (a b x:Int) (h:min (max b 0) (c.length:Int)<=min (max a 0) (c.length:Int)):qF c a b x=c:=by
 apply List.ext_getElem?
 intro i
 unfold qF
 rw [List.getElem?_mapIdx]
 rcases Nat.lt_or_ge i c.length with hi|hi
 ·rw [List.getElem?_eq_getElem hi]
  show some (if _ then x else _)=_
  rw [if_neg (by omega)]
 ·rw [List.getElem?_eq_none hi];rfl
theorem wQ (c : List Int) (a b x : Int) (h : min (max a 0) (c.length : Int) < min (max b 0) (c.length : Int)) :
  qF c a b x = vU c 0 (min (max a 0) (c.length : Int)) ++ List.replicate (min (max b 0) (c.length : Int) - min (max a 0) (c.length : Int)).toNat x ++ vU c (min (max b 0) (c.length : Int)) c.length := by
 have h1 : (vU c 0 (min (max a 0) (c.length : Int))).length = (min (max a 0) (c.length : Int)).toNat := by unfold vU; simp; omega
 apply List.ext_getElem?
 intro i
 unfold qF
 rw [List.getElem?_mapIdx, List.append_assoc]
 rcases Nat.lt_or_ge i c.length with hi | hi
 ·rw [List.getElem?_eq_getElem hi]
  show some (if _ then x else _) = _
  rcases Nat.lt_or_ge i (min (max a 0) (c.length : Int)).toNat with hl | hl
  ·rw [if_neg (by omega), List.getElem?_append_left (by omega)]
   unfold vU
   rw [List.getElem?_drop, List.getElem?_take]
   simp only [Int.toNat_zero, Nat.zero_add]
   rw [if_pos hl, List.getElem?_eq_getElem hi]
  ·rw [List.getElem?_append_right (by omega), h1]
   rcases Nat.lt_or_ge i (min (max b 0) (c.length : Int)).toNat with hm | hm
   ·rw [if_pos (by omega), List.getElem?_append_left (by rw [List.length_replicate]; omega), List.getElem?_replicate, if_pos (by omega)]
   ·rw [if_neg (by omega), List.getElem?_append_right (by rw [List.length_replicate]; omega), List.length_replicate]
    unfold vU
    rw [List.getElem?_drop, List.getElem?_take, if_pos (by omega)]
    rw [show (min (max b 0) (c.length : Int)).toNat + (i - (min (max a 0) (c.length : Int)).toNat - (min (max b 0) (c.length : Int) - min (max a 0) (c.length : Int)).toNat) = i from by omega]
    rw [List.getElem?_eq_getElem hi]
 ·rw [List.getElem?_eq_none hi]
  symm
  rw [Option.map_none, List.getElem?_eq_none]
  simp only [List.length_append, List.length_replicate, h1]
  unfold vU
  simp
  omega
theorem Db (c : List Int) (i x : Int) (h0 : 0 ≤ i) (h1 : i < (c.length : Int)) : qF c i (i + 1) x = c.set i.toNat x := by
 apply List.ext_getElem?
 intro j
 unfold qF
 rw [List.getElem?_mapIdx, List.getElem?_set]
 rcases Nat.lt_or_ge j c.length with hj | hj
 ·rw [List.getElem?_eq_getElem hj]
  show some (if _ then x else _) = _
  by_cases e : i.toNat = j
  ·rw [if_pos (by omega), if_pos e, if_pos (by omega)]
  ·rw [if_neg (by omega), if_neg e]
 ·rw [List.getElem?_eq_none hj, if_neg (by omega)]; rfl
def FT (c:List Int) (i:Int):Int:=if i<0 then -1 else c.getD i.toNat (-1)
theorem GJ (c:List Int) (i:Int) (h:i<0\/(c.length:Int)<=i):FT c i= -1:=by
 unfold FT
 split
 ·rfl
 ·rw [List.getD_eq_getElem?_getD,List.getElem?_eq_none (by omega)];rfl
theorem H2 (c d : List Int) (n : Nat) (x i : Int) (h0 : (c.length : Int) ≤ i) (h1 : i < (c.length : Int) + n) : FT (c ++ List.replicate n x ++ d) i = x := by
 unfold FT
 rw [if_neg (by omega), List.getD_eq_getElem?_getD, List.append_assoc, List.getElem?_append_right (by omega), List.getElem?_append_left (by rw [List.length_replicate]; omega), List.getElem?_replicate, if_pos (by omega)]
 rfl
def oz (may : Int → Bool) : Option Int → Int → List Rn → Bool
 | _, left, [] => left == 0
 | prev, left, r :: t => if r.1 < 1 ∨ r.1 > left ∨ may r.2 = false ∨ prev = some r.2 then false else oz may (some r.2) (left - r.1) t
def j3 (may:Int->Bool) (l:List Rn) (n:Int):Bool:=decide (0<n)&& oz may none n l
theorem zA {may : Int → Bool} : ∀ {l : List Rn} {prev : Option Int} {left : Int}, oz may prev left l = true → aF l = left
 | [], _, left, h => by simp [oz] at h; rw [h]; rfl
 | r :: t, prev, left, h => by
   unfold oz at h
   split at h
   ·cases h
   ·have := zA h
    simp only [aF, List.map_cons, List.sum_cons] at this ⊢
    omega
theorem rj {may : Int → Bool} : ∀ {l : List Rn} {prev : Option Int} {left : Int}, (∀ r ∈ l, 1 ≤ r.1 ∧ may r.2 = true) → (∀ i q r, l[i]? = some q → l[i + 1]? = some r → q.2 ≠ r.2) → (∀ r, l.head? = some r → prev ≠ some r.2) → aF l = left → oz may prev left l = true
 | [], _, left, _, _, _, h => by simp [oz, ← h, aF]
 | r :: t, prev, left, h1, h2, h3, h => by
   have hr := h1 r (.head _)
   have ht : 0 ≤ aF t := by rw [bI fun q hq => by have := h1 q (.tail _ hq); omega]; omega
   have e : aF (r :: t) = r.1 + aF t := by simp [aF]
   unfold oz
   rw [if_neg (by
    have := h3 r rfl
    rintro (h | h | h | h)
    ·omega
    ·omega
    ·rw [hr.2] at h; cases h
    ·exact this h)]
   refine rj (fun q hq => h1 q (.tail _ hq)) (fun i q s hq hs => h2 (i + 1) q s (by simpa using hq) (by simpa using hs)) (fun q hq => ?_) (by omega)
   have := h2 0 r q rfl (by cases t <;> simp_all)
   intro e2; exact this (Option.some.inj e2)
theorem Nm.next {l : List Rn} (h : Nm l) : ∀ i q r, l[i]? = some q → l[i + 1]? = some r → q.2 ≠ r.2 := by
 induction h with
 | nil => intro i q r h; simp at h
 | snoc l p hl h1 h2 ih =>
   intro i q r hq hr
   rcases Nat.lt_or_ge (i + 1) l.length with hlt | hge
   ·rw [List.getElem?_append_left (by omega)] at hq hr
    exact ih i q r hq hr
   ·have hi := (List.getElem?_eq_some_iff.1 hr).1
    simp at hi
    have : i + 1 = l.length := by omega
    rw [List.getElem?_append_left (by omega)] at hq
    rw [List.getElem?_append_right (by omega), this] at hr
    simp at hr; subst hr
    refine h2 q ?_
    rw [List.getLast?_eq_getElem?, show l.length - 1 = i from by omega]
    exact hq
theorem CQ {l:List Rn} {r:Rn} (h:r ∈ l) (h1:1<=r.1):r.2 ∈ aH l:=by
 unfold aH
 refine List.mem_flatMap.2 ⟨r,h,?_⟩
 rw [List.mem_replicate]
 exact ⟨by omega,rfl⟩
end Go.aB
namespace Go.aB
theorem Gv {c:List Int} {i:Int} (h0:0<=i) (h1:i<(c.length:Int)):c[i.toNat]? =some (FT c i):=by
 unfold FT
 rw [if_neg (by omega),List.getD_eq_getElem?_getD,List.getElem?_eq_getElem (by omega)];rfl
end Go.aB
namespace Go.Code
open Go Go.Vc Go.aB
def oy:Nat->Int->List Int
 |0,_=> []
 |k+1,x=>if x<128 then [x]else (128+x % 128)::oy k (x / 128)
def j1 (n:Int):List Int:=if n<0\/n>1048576 then []else oy 3 n
def j2 : Nat → Nat → Int → List Int → Int × Int × Int
 | 0, _, _, _ => (0, 0, 2)
 | _ + 1, _, _, [] => (0, 0, 3)
 | k + 1, i, n, c :: t => if c ≥ 128 then j2 k (i + 1) (n + c % 128 * 128 ^ i) t
   else if (c = 0 ∧ 0 < i) ∨ n + c % 128 * 128 ^ i > 1048576 then (0, 0, 2) else (n + c % 128 * 128 ^ i, (i : Int) + 1, 0)
def bt (b:List Int):Int × Int × Int:=j2 3 0 0 b
theorem wrap_u8 (x:Int):IntKind.wrap .u8 x=x % 256:=by
 unfold IntKind.wrap
 simp [IntKind.bits,IntKind.signed]
theorem IJ (x : Int) (h : 0 ≤ x) : yD .u8 (IntKind.wrap .u8 x) 128 = 128 + x % 128 := by
 rw [wrap_u8]
 have key : ∀ a < 256, yD .u8 ((a : Nat) : Int) 128 = 128 + ((a : Nat) : Int) % 128 := by decide +kernel
 have := key (x % 256).toNat (by omega)
 rw [show (((x % 256).toNat : Nat) : Int) = x % 256 from by omega] at this
 rw [this]; omega
theorem CE (c : Int) (h : 0 ≤ c) (h' : c < 256) : gk .u8 c 128 = c % 128 := by
 have key : ∀ a < 256, gk .u8 ((a : Nat) : Int) 128 = ((a : Nat) : Int) % 128 := by decide +kernel
 have := key c.toNat (by omega)
 rwa [show ((c.toNat : Nat) : Int) = c from by omega] at this
theorem HK (n c k:Nat) (h:n<2 ^ k) (hb:n+c*2 ^ k<4611686018427387904):yD .i64 (n:Int) ((c*2 ^ k:Nat):Int)=((n+c*2 ^ k:Nat):Int):=by
 unfold yD
 have e1:∀m:Nat,m<4611686018427387904->(BitVec.ofInt IntKind.i64.bits (m:Int)).toNat=m:=by
  intro m hm
  rw [BitVec.toNat_ofInt]
  show ((m:Int)%((2 ^ 64:Nat):Int)).toNat=m
  rw [show ((2 ^ 64:Nat):Int)=18446744073709551616 from by decide]
  omega
 rw [BitVec.toNat_or,e1 n (by omega),e1 _ (by omega),Nat.or_comm]
 have:=Nat.shiftLeft_add_eq_or_of_lt h c
 rw [Nat.shiftLeft_eq]at this
 rw [<-this,Nat.add_comm]
 exact wI
end Go.Code
namespace Go.Code
open Go Go.Vc Go.aB
theorem HL (k:Nat) (hk:k<3) (n c:Int) (h0:0<=n) (h1:n<128 ^ k) (hc:0<=c) (hc':c<256):
  yD .i64 n (IntKind.wrap .i64 ((IntKind.wrap .i64 (gk .u8 c 128))*2 ^(min ((IntKind.wrap .i64 (7*(k:Int))):Int).toNat 64)))=n+c % 128*128 ^ k/\0<=IntKind.wrap .i64 (7*(k:Int)):=by
 have hw:=ag (n:=7*(k:Int)) (by unfold inI;omega)
 rw [hw,CE c hc hc',ag (n:=c % 128) (by unfold inI;omega)]
 refine ⟨?_,by omega⟩
 have e:((2:Int)^(min ((7*(k:Int)):Int).toNat 64))=128 ^ k:=by
  have:k=0\/k=1\/k=2:=by omega
  rcases this with rfl|rfl|rfl<;>decide
 rw [e]
 have hp:(128:Int)^ k<=16384/\1<=(128:Int)^ k:=by
  have:k=0\/k=1\/k=2:=by omega
  rcases this with rfl|rfl|rfl<;>decide
 have hm:c % 128*128 ^ k<=127*16384:=by
  have:k=0\/k=1\/k=2:=by omega
  rcases this with rfl|rfl|rfl<;>simp<;>omega
 have hm0:0<=c % 128*128 ^ k:=Int.mul_nonneg (by omega) (by omega)
 rw [ag (n:=c % 128*128 ^ k) (by unfold inI;omega)]
 have e7:((2 ^(7*k):Nat):Int)=128 ^ k:=by
  have:k=0\/k=1\/k=2:=by omega
  rcases this with rfl|rfl|rfl<;>decide
 have e2:c % 128*128 ^ k=(((c % 128).toNat*2 ^(7*k):Nat):Int):=by
  rw [Int.natCast_mul,e7,show (((c % 128).toNat:Nat):Int)=c % 128 from by omega]
 have:=HK n.toNat (c % 128).toNat (7*k) (by
  have:((n.toNat:Nat):Int)<((2 ^(7*k):Nat):Int):=by rw [e7];omega
  omega) (by
  have:(((c % 128).toNat*2 ^(7*k):Nat):Int)<=127*16384:=by rw [<-e2];exact hm
  omega)
 rw [e2,show n=((n.toNat:Nat):Int)from by omega]
 rw [this];simp
theorem oh {k j : Nat} {n c : Int} {t : List Int} : j2 (j + 1) k n (c :: t) = if c ≥ 128 then j2 j (k + 1) (n + c % 128 * 128 ^ k) t
   else if (c = 0 ∧ 0 < k) ∨ n + c % 128 * 128 ^ k > 1048576 then (0, 0, 2) else (n + c % 128 * 128 ^ k, (k : Int) + 1, 0) := rfl
theorem yV (k : Nat) (n c : Int) (h1 : n < 128 ^ k) : n + c % 128 * 128 ^ k < 128 ^ (k + 1) := by
 have hp : 0 ≤ (128 : Int) ^ k := Int.pow_nonneg (by omega)
 have : c % 128 * 128 ^ k ≤ 127 * 128 ^ k := Int.mul_le_mul_of_nonneg_right (by omega) hp
 rw [Int.pow_succ]; omega
end Go.Code
namespace Go.Code
open Go Go.Vc Go.aB
def uv : Int → List Rn → Bool
 | _, [] => true
 | left, r :: t => if r.1 < 1 ∨ r.1 > left then false else uv (left - r.1) t
theorem yW : ∀ {l : List Rn} {left : Int}, uv left l = true → (∀ r ∈ l, 1 ≤ r.1) ∧ (l ≠ [] → aF l ≤ left)
 | [], _, _ => ⟨by simp, fun h => absurd rfl h⟩
 | r :: t, left, h => by
   unfold uv at h
   split at h
   ·cases h
   ·obtain ⟨h1, h2⟩ := yW h
    refine ⟨fun q hq => ?_, fun _ => ?_⟩
    ·rcases List.mem_cons.1 hq with rfl | hq
     ·omega
     ·exact h1 q hq
    ·have e : aF (r :: t) = r.1 + aF t := by simp [aF]
     by_cases ht : t = []
     ·subst ht; rw [e]; simp [aF]; omega
     ·have := h2 ht; omega
def okW (may:Int->Bool) (l:List Rn):Bool:=uv 1048576 l && j3 may l (aF l)
def k7 (l:List Rn):List Int:=l.flatMap fun r=>r.2 % 256::j1 r.1
theorem Gi (l m:List Rn):k7 (l++m)=k7 l++k7 m:=by unfold k7;rw [List.flatMap_append]
theorem Eo {l:List Rn} {k:Nat} {r:Rn} (hr:l[k]? =some r):k7 (l.take (k+1))=k7 (l.take k)++(r.2 % 256::j1 r.1):=by
 rw [List.take_add_one,hr,Gi];simp [k7]
theorem yX:∀(k:Nat) (x:Int),(oy k x).length<=k
 |0,_=>by simp [oy]
 |k+1,x=>by
  unfold oy
  split
  ·simp
  ·have:=yX k (x / 128);simp;omega
theorem yY (n:Int):(j1 n).length<=3:=by
 unfold j1
 split
 ·simp
 ·exact yX 3 n
theorem BN (l:List Rn):(k7 l).length<=4*l.length:=by
 induction l with
 |nil=>simp [k7]
 |cons r l ih=>
  have:=yY r.1
  unfold k7 at ih ⊢
  rw [List.flatMap_cons,List.length_append,List.length_cons,List.length_cons]
  omega
theorem BR : ∀ (k : Nat) (x : Int), 0 ≤ x → ∀ c ∈ oy k x, 0 ≤ c ∧ c < 256
 | 0, _, _, c, h => by simp [oy] at h
 | k + 1, x, hx, c, h => by
   unfold oy at h
   split at h
   ·simp at h; omega
   ·rcases List.mem_cons.1 h with rfl | h
    ·omega
    ·exact BR k (x / 128) (by omega) c h
theorem Gj (n : Int) : ∀ c ∈ j1 n, 0 ≤ c ∧ c < 256 := by
 intro c h
 unfold j1 at h
 split at h
 ·simp at h
 ·exact BR 3 n (by omega) c h
theorem HH (l:List Rn):∀c ∈ k7 l,0<=c/\c<256:=by
 intro c h
 unfold k7 at h
 obtain ⟨r,_,hc⟩:=List.mem_flatMap.1 h
 rcases List.mem_cons.1 hc with rfl|hc
 ·omega
 ·exact Gj r.1 c hc
end Go.Code
namespace Go.Code
open Go Go.Vc Go.aB
end Go.Code
namespace Go.Code
open Go Go.Vc Go.aB
theorem wC:∀{l:List Rn} {left:Int},(∀r ∈ l,1<=r.1)->aF l<=left->uv left l=true
 | [],_,_,_=>rfl
 |r::t,left,h,hs=>by
  have e:aF (r::t)=r.1+aF t:=by simp [aF]
  have h1:=h r (.head _)
  have ht:0<=aF t:=by rw [bI fun q hq=>by have:=h q (.tail _ hq);omega];omega
  unfold uv
  rw [if_neg (by omega)]
  exact wC (fun q hq=>h q (.tail _ hq)) (by omega)
theorem HM {may : Int → Bool} {l : List Rn} (h : Nm l) (hm : ∀ r ∈ l, may r.2 = true) (hs : aF l ≤ 1048576) (hne : l ≠ []) : okW may l = true := by
 unfold okW
 rw [wC h.pos hs]
 unfold j3
 have hp : 0 < aF l := by
  cases l with
  | nil => exact absurd rfl hne
  | cons r t =>
    have e : aF (r :: t) = r.1 + aF t := by simp [aF]
    have h1 := h.pos r (.head _)
    have ht : 0 ≤ aF t := by rw [bI fun q hq => by have := h.pos q (.tail _ hq); omega]; omega
    omega
 rw [decide_eq_true hp, rj (fun r hr => ⟨h.pos r hr, hm r hr⟩) h.next (fun r _ => by simp) rfl]
 rfl
end Go.Code
namespace Go.Code
open Go Go.Vc Go.aB
def gE (may : Int → Bool) : Nat → List Int → Int → Int → List Rn → List Rn × Int
 | 0, _, _, _, _ => ([], 3)
 | _ + 1, [], n, _, acc => if n > 0 then ([], 3) else (acc, 0)
 | f + 1, c :: t, n, last, acc =>
   if may c = false ∨ c = last then ([], 2)
   else if (bt t).2.2 ≠ 0 then ([], (bt t).2.2)
   else if (bt t).1 = 0 ∨ (bt t).1 > n then ([], 2)
   else if n - (bt t).1 = 0 then (if t.drop (bt t).2.1.toNat = [] then (acc ++ [((bt t).1, c)], 0) else ([], 2))
   else gE may f (t.drop (bt t).2.1.toNat) (n - (bt t).1) c (acc ++ [((bt t).1, c)])
def bh (may : Int → Bool) (b : List Int) (n : Int) : List Rn × Int := gE may (b.length + 1) b n (-1) []
theorem qm : ∀ (k i : Nat) (m : Int) (b : List Int), 0 ≤ m → (j2 k i m b).2.2 = 0 → 0 ≤ (j2 k i m b).1 ∧ (j2 k i m b).1 ≤ 1048576 ∧ (i : Int) + 1 ≤ (j2 k i m b).2.1 ∧ (j2 k i m b).2.1 ≤ (i : Int) + b.length
 | 0, _, _, _, _, h => by simp [j2] at h
 | k + 1, i, m, [], _, h => by simp [j2] at h
 | k + 1, i, m, c :: t, h0, h => by
   have hp : 0 ≤ c % 128 * 128 ^ i := Int.mul_nonneg (by omega) (Int.pow_nonneg (by omega))
   rw [oh] at h ⊢
   split
   ·rename_i hc
    rw [if_pos hc] at h
    have := qm k (i + 1) _ t (by omega) h
    simp only [List.length_cons]
    omega
   ·rename_i hc
    rw [if_neg hc] at h
    split
    ·rename_i hz; rw [if_pos hz] at h; simp at h
    ·rename_i hz
     simp only [List.length_cons]
     refine ⟨by omega, ?_, by omega, by omega⟩
     rcases Int.lt_or_le 1048576 (m + c % 128 * 128 ^ i) with hh | hh
     ·exact absurd (.inr hh) hz
     ·exact hh
end Go.Code
namespace Go.Code
open Go Go.Vc Go.aB
theorem xh {may : Int → Bool} {f : Nat} {n last : Int} {acc : List Rn} : gE may (f + 1) [] n last acc = if n > 0 then ([], 3) else (acc, 0) := rfl
theorem th (may : Int → Bool) (f : Nat) (c : Int) (t : List Int) (n last : Int) (acc : List Rn) : gE may (f + 1) (c :: t) n last acc =
  if may c = false ∨ c = last then ([], 2)
  else if (bt t).2.2 ≠ 0 then ([], (bt t).2.2)
  else if (bt t).1 = 0 ∨ (bt t).1 > n then ([], 2)
  else if n - (bt t).1 = 0 then (if t.drop (bt t).2.1.toNat = [] then (acc ++ [((bt t).1, c)], 0) else ([], 2))
  else gE may f (t.drop (bt t).2.1.toNat) (n - (bt t).1) c (acc ++ [((bt t).1, c)]) := rfl
theorem xi {may : Int → Bool} : ∀ (f : Nat) (b : List Int) (n last : Int) (acc : List Rn), (gE may f b n last acc).1.length ≤ acc.length + b.length
 | 0, _, _, _, _ => by simp [gE]
 | f + 1, [], n, _, acc => by rw [xh]; split <;> simp
 | f + 1, c :: t, n, last, acc => by
   rw [th]
   split
   ·simp
   split
   ·simp
   split
   ·simp
   split
   ·split <;> simp
   ·have := xi (may := may) f (t.drop (bt t).2.1.toNat) (n - (bt t).1) c (acc ++ [((bt t).1, c)])
    simp only [List.length_append, List.length_cons, List.length_nil, List.length_drop] at this ⊢
    omega
theorem Dz {may : Int → Bool} (b : List Int) (n : Int) : (bh may b n).1.length ≤ b.length := by
 have := xi (may := may) (b.length + 1) b n (-1) []
 simpa [bh] using this
def dE (may:Int->Bool):Int->List Rn->Prop
 |_,[]=>True
 |last,r::t=>1<=r.1/\r.1<=1048576/\0<=r.2/\r.2<256/\may r.2=true/\r.2≠last/\dE may r.2 t
theorem dE.pos {may:Int->Bool}:∀{l:List Rn} {last:Int},dE may last l->∀r ∈ l,1<=r.1
 | [],_,_=>by simp
 |q::t,_,h=>by
  obtain ⟨h1,_,_,_,_,_,h7⟩:=h
  intro r hr
  rcases List.mem_cons.1 hr with rfl|hr
  ·exact h1
  ·exact h7.pos r hr
theorem Ag (r:Rn) (t:List Rn) (h:0<=r.2/\r.2<256):k7 (r::t)=r.2::(j1 r.1++k7 t):=by
 unfold k7
 rw [List.flatMap_cons,Int.emod_eq_of_lt h.1 h.2];rfl
theorem DA (r:Rn) (t:List Rn):aF (r::t)=r.1+aF t:=by simp [aF]
theorem FG {t : List Int} (hi : ∀ c ∈ t, 0 ≤ c ∧ c < 256) (h : (bt t).2.2 = 0) : j1 (bt t).1 = t.take (bt t).2.1.toNat := by
 unfold bt at h ⊢
 cases t with
 | nil => simp [j2] at h
 | cons a t =>
   have ha := hi a (.head _)
   rw [oh] at h ⊢
   split
   ·rename_i ha2
    rw [if_pos ha2] at h
    cases t with
    | nil => simp [j2] at h
    | cons b t =>
      have hb := hi b (.tail _ (.head _))
      rw [oh] at h ⊢
      split
      ·rename_i hb2
       rw [if_pos hb2] at h
       cases t with
       | nil => simp [j2] at h
       | cons c t =>
         have hc := hi c (.tail _ (.tail _ (.head _)))
         rw [oh] at h ⊢
         split
         ·rename_i hc2
          rw [if_pos hc2] at h
          simp [j2] at h
         ·rename_i hc2
          rw [if_neg hc2] at h
          split
          ·rename_i hz; rw [if_pos hz] at h; simp at h
          ·rename_i hz
           have e : (0 + a % 128 * 128 ^ 0 + b % 128 * 128 ^ (0 + 1) + c % 128 * 128 ^ (0 + 1 + 1) : Int) = a % 128 + b % 128 * 128 + c % 128 * 16384 := by
            simp
           rw [e] at hz ⊢
           have hc0 : c ≠ 0 := fun e0 => hz (.inl ⟨e0, by omega⟩)
           have hle : a % 128 + b % 128 * 128 + c % 128 * 16384 ≤ 1048576 := by
            rcases Int.lt_or_le 1048576 (a % 128 + b % 128 * 128 + c % 128 * 16384) with hh | hh
            ·exact absurd (.inr hh) hz
            ·exact hh
           have ec : c % 128 = c := by omega
           rw [ec] at hle ⊢
           unfold j1
           rw [if_neg (by omega)]
           simp only [oy]
           rw [if_neg (by omega), if_neg (by omega), if_pos (by omega)]
           have e1 : 128 + (a % 128 + b % 128 * 128 + c * 16384) % 128 = a := by omega
           have e2 : 128 + (a % 128 + b % 128 * 128 + c * 16384) / 128 % 128 = b := by omega
           have e3 : (a % 128 + b % 128 * 128 + c * 16384) / 128 / 128 = c := by omega
           rw [e1, e2, e3]
           rfl
      ·rename_i hb2
       rw [if_neg hb2] at h
       split
       ·rename_i hz; rw [if_pos hz] at h; simp at h
       ·rename_i hz
        have e : (0 + a % 128 * 128 ^ 0 + b % 128 * 128 ^ (0 + 1) : Int) = a % 128 + b % 128 * 128 := by simp
        rw [e] at hz ⊢
        have hb0 : b ≠ 0 := fun e0 => hz (.inl ⟨e0, by omega⟩)
        have ec : b % 128 = b := by omega
        rw [ec] at hz ⊢
        unfold j1
        rw [if_neg (by omega)]
        simp only [oy]
        rw [if_neg (by omega), if_pos (by omega)]
        have e1 : 128 + (a % 128 + b * 128) % 128 = a := by omega
        have e2 : (a % 128 + b * 128) / 128 = b := by omega
        rw [e1, e2]
        rfl
   ·rename_i ha2
    rw [if_neg ha2] at h
    split
    ·rename_i hz; rw [if_pos hz] at h; simp at h
    ·have ec : a % 128 = a := by omega
     rw [ec]
     have e : (0 + a * 128 ^ 0 : Int) = a := by simp
     rw [e]
     unfold j1
     rw [if_neg (by omega)]
     simp only [oy]
     rw [if_pos (by omega)]
     rfl
theorem ti {may : Int → Bool} : ∀ (f : Nat) (b : List Int) (n last : Int) (acc : List Rn), (∀ c ∈ b, 0 ≤ c ∧ c < 256) → 1 ≤ n → (gE may f b n last acc).2 = 0 →
  ∃ l, (gE may f b n last acc).1 = acc ++ l ∧ k7 l = b ∧ dE may last l ∧ aF l = n ∧ l ≠ []
 | 0, _, _, _, _, _, _, h => by simp [gE] at h
 | f + 1, [], n, _, acc, _, hn, h => by rw [xh, if_pos (by omega)] at h; simp at h
 | f + 1, c :: t, n, last, acc, hi, hn, h => by
   have hc := hi c (.head _)
   have ht : ∀ c ∈ t, 0 ≤ c ∧ c < 256 := fun q hq => hi q (.tail _ hq)
   rw [th] at h ⊢
   split
   ·rename_i h1; rw [if_pos h1] at h; simp at h
   rename_i h1
   rw [if_neg h1] at h
   split
   ·rename_i h2; rw [if_pos h2] at h; exact absurd h h2
   rename_i h2
   rw [if_neg h2] at h
   split
   ·rename_i h3; rw [if_pos h3] at h; simp at h
   rename_i h3
   rw [if_neg h3] at h
   have h2' : (bt t).2.2 = 0 := Decidable.not_not.1 h2
   have hd := qm 3 0 0 t (by omega) h2'
   have hnum := FG ht h2'
   rw [show j2 3 0 0 t = bt t from rfl] at hd
   generalize hdg : bt t = d at *
   obtain ⟨sz, k, er⟩ := d
   simp only at h h3 hd hnum ⊢
   have hmay : may c = true := by
    cases hm : may c with
    | true => rfl
    | false => exact absurd (.inl hm) h1
   have hcl : c ≠ last := fun e => h1 (.inr e)
   have htk : j1 sz ++ t.drop k.toNat = t := by rw [hnum]; exact List.take_append_drop _ _
   split
   ·rename_i h4
    rw [if_pos h4] at h
    split
    ·rename_i h5
     refine ⟨[(sz, c)], rfl, ?_, ⟨by show 1 ≤ sz; omega, by show sz ≤ 1048576; omega, hc.1, hc.2, hmay, hcl, trivial⟩, by simp [aF]; omega, by simp⟩
     rw [Ag _ _ hc]
     rw [h5, List.append_nil] at htk
     simp [htk, k7]
    ·rename_i h5; rw [if_neg h5] at h; simp at h
   ·rename_i h4
    rw [if_neg h4] at h
    obtain ⟨l, e1, e2, e3, e4, e5⟩ := ti f (t.drop k.toNat) (n - sz) c (acc ++ [(sz, c)]) (fun q hq => ht q (List.mem_of_mem_drop hq)) (by omega) h
    refine ⟨(sz, c) :: l, by rw [e1]; simp, ?_, ⟨by show 1 ≤ sz; omega, by show sz ≤ 1048576; omega, hc.1, hc.2, hmay, hcl, e3⟩, by rw [DA]; show sz + aF l = n; omega, by simp⟩
    rw [Ag _ _ hc, e2]
    show c :: (j1 sz ++ t.drop k.toNat) = _
    rw [htk]
theorem dE.of {may : Int → Bool} : ∀ {l : List Rn} {last : Int}, (∀ r ∈ l, 1 ≤ r.1 ∧ r.1 ≤ 1048576 ∧ 0 ≤ r.2 ∧ r.2 < 256 ∧ may r.2 = true) → (∀ i q r, l[i]? = some q → l[i + 1]? = some r → q.2 ≠ r.2) → (∀ r, l.head? = some r → r.2 ≠ last) → dE may last l
 | [], _, _, _, _ => trivial
 | r :: t, last, h1, h2, h3 => by
   obtain ⟨a, b, c, d, e⟩ := h1 r (.head _)
   refine ⟨a, b, c, d, e, h3 r rfl, dE.of (fun q hq => h1 q (.tail _ hq)) (fun i q s hq hs => h2 (i + 1) q s (by simpa using hq) (by simpa using hs)) (fun q hq => ?_)⟩
   have := h2 0 r q rfl (by cases t <;> simp_all)
   exact fun e => this e.symm
theorem dE.next {may:Int->Bool}:∀{l:List Rn} {last:Int},dE may last l->∀i q r,l[i]? =some q->l[i+1]? =some r->q.2≠r.2
 | [],_,_,i,q,r,h,_=>by simp at h
 | [x],_,_,i,q,r,h,h'=>by simp at h'
 |x::y::t,_,h,0,q,r,hq,hr=>by
  simp at hq hr;subst hq;subst hr
  exact fun e=>h.2.2.2.2.2.2.2.2.2.2.2.1 e.symm
 |x::y::t,_,h,i+1,q,r,hq,hr=>h.2.2.2.2.2.2.next i q r (by simpa using hq) (by simpa using hr)
theorem dE.mem {may:Int->Bool}:∀{l:List Rn} {last:Int},dE may last l->∀r ∈ l,1<=r.1/\r.1<=1048576/\0<=r.2/\r.2<256/\may r.2=true
 | [],_,_,r,h=>by cases h
 |q::t,_,h,r,hr=>by
  rcases List.mem_cons.1 hr with rfl|hr
  ·exact ⟨h.1,h.2.1,h.2.2.1,h.2.2.2.1,h.2.2.2.2.1⟩
  ·exact h.2.2.2.2.2.2.mem r hr
theorem dE.j3 {may : Int → Bool} {l : List Rn} {last : Int} (h : dE may last l) (hne : 1 ≤ aF l) : j3 may l (aF l) = true := by
 unfold Go.aB.j3
 rw [decide_eq_true (by omega), rj (fun r hr => ⟨h.pos r hr, (h.mem r hr).2.2.2.2⟩) h.next (fun r _ => by simp) rfl]
 rfl
end Go.Code
namespace Go.bQ
open Go Go.Vc
abbrev Ce:=Int × Int × Int
abbrev Po:=Int × Int
theorem IH {a b : Int} (hb : 0 < b) : (a.tmod b < 0 → a / b = a.tdiv b - 1 ∧ a % b = a.tmod b + b) ∧ (0 ≤ a.tmod b → a / b = a.tdiv b ∧ a % b = a.tmod b) ∧ -b < a.tmod b ∧ a.tmod b < b := by
 have h1 : b * a.tdiv b + a.tmod b = a := Int.mul_tdiv_add_tmod a b
 have h2 : a.tmod b < b := Int.tmod_lt_of_pos a hb
 have h3 : -b < a.tmod b := by
  have := Int.tmod_lt_of_pos (-a) hb
  rw [Int.neg_tmod] at this
  omega
 refine ⟨fun h => ?_, fun h => ?_, h3, h2⟩
 ·have := (Int.ediv_emod_unique hb (a := a) (q := a.tdiv b - 1) (r := a.tmod b + b)).2 ⟨by rw [Int.mul_sub]; omega, by omega, by omega⟩
  exact this
 ·exact (Int.ediv_emod_unique hb (a := a) (q := a.tdiv b) (r := a.tmod b)).2 ⟨by omega, by omega, by omega⟩
theorem BL {a b:Int} (ha:inI a) (hb:0<b):inI (a / b):=by
 unfold inI at*
 have h1:=Int.emod_nonneg a (by omega:b≠0)
 have h2:=Int.emod_lt_of_pos a hb
 have h3:=Int.mul_ediv_add_emod a b
 rcases Int.lt_or_le a 0 with h|h
 ·have h4:a<=a / b:=by
   rw [Int.le_ediv_iff_mul_le hb]
   have:=Int.mul_le_mul_of_nonpos_left (a:=a) (b:=b) (c:=1) (by omega) (by omega)
   omega
  have h5:a / b<0:=Int.ediv_neg_of_neg_of_pos h hb
  omega
 ·have h4:a / b<=a:=Int.ediv_le_self b h
  have h5:0<=a / b:=Int.ediv_nonneg h (by omega)
  omega
theorem BM {a b:Int} (ha:inI a) (hb:0<b):inI (a.tdiv b):=by
 unfold inI at*
 rcases Int.lt_or_le a 0 with h|h
 ·have h1:a.tdiv b= -((-a)/ b):=by
   rw [<-Int.tdiv_eq_ediv_of_nonneg (by omega),Int.neg_tdiv];omega
  have h4:(-a)/ b<=-a:=Int.ediv_le_self b (by omega)
  have h5:0<=(-a)/ b:=Int.ediv_nonneg (by omega) (by omega)
  omega
 ·rw [Int.tdiv_eq_ediv_of_nonneg h]
  have h4:a / b<=a:=Int.ediv_le_self b h
  have h5:0<=a / b:=Int.ediv_nonneg h (by omega)
  omega
theorem u64_in (n:Int):0<=IntKind.wrap .u64 n/\IntKind.wrap .u64 n<18446744073709551616:=by
 unfold IntKind.wrap
 simp only [IntKind.bits,IntKind.signed]
 simp
 omega
theorem ET {n:Int} (h:0<=n/\n<18446744073709551616):IntKind.wrap .u64 n=n:=by
 unfold IntKind.wrap
 simp only [IntKind.bits,IntKind.signed]
 simp
 omega
def mix (aa x z:Int):Int:=IntKind.wrap .u64 ((IntKind.wrap .u64 ((IntKind.wrap .u64 ((IntKind.wrap .u64 aa)*11400714819323198485))+(IntKind.wrap .u64 ((IntKind.wrap .u64 x)*14029467366897019727))))+(IntKind.wrap .u64 ((IntKind.wrap .u64 z)*1609587929392839161)))
def hash (aa x z:Int):Int:=
 dt .u64 (IntKind.wrap .u64 ((dt .u64 (mix aa x z) (mix aa x z / 536870912))*13787848793156543929)) (IntKind.wrap .u64 ((dt .u64 (mix aa x z) (mix aa x z / 536870912))*13787848793156543929)/ 4294967296)
theorem Gh (aa x z:Int):0<=hash aa x z:=by
 unfold hash dt
 exact (u64_in _).1
theorem Jj (n:Int):(IntKind.wrap .u64 n).fdiv (2 ^(min (29:Int).toNat 64))=IntKind.wrap .u64 n / 536870912:=Int.fdiv_eq_ediv_of_nonneg _ (by decide)
theorem Jk (n:Int):(IntKind.wrap .u64 n).fdiv (2 ^(min (32:Int).toNat 64))=IntKind.wrap .u64 n / 4294967296:=Int.fdiv_eq_ediv_of_nonneg _ (by decide)
theorem Jl (n : Int) : IntKind.wrap .u64 (Int.tdiv (IntKind.wrap .u64 n) 536870912) = IntKind.wrap .u64 n / 536870912 := by
 have h := u64_in n
 rw [Int.tdiv_eq_ediv_of_nonneg h.1, ET (by omega)]
theorem Jm (n : Int) : IntKind.wrap .u64 (Int.tdiv (IntKind.wrap .u64 n) 4294967296) = IntKind.wrap .u64 n / 4294967296 := by
 have h := u64_in n
 rw [Int.tdiv_eq_ediv_of_nonneg h.1, ET (by omega)]
def aI (aa x z:Int):Int:=hash aa x z % 9
def ground (aa x z:Int):Int:=
 6+(aI aa (x / 8) (z / 8)*((8-x % 8)*(8-z % 8))+aI aa (x / 8+1) (z / 8)*(x % 8*(8-z % 8))+aI aa (x / 8) (z / 8+1)*((8-x % 8)*(z % 8))+aI aa (x / 8+1) (z / 8+1)*(x % 8*(z % 8)))/ 64
def mu (y g:Int):Int:=
 if y<0\/32<=y then 0 else if y=0\/y<g-3 then 1 else if y<g-1\/(y=g-1/\9<g)then 2 else if y=g-1 then 3 else if y<9 then 8 else 0
theorem gR {c u v:Int} (hc:0<=c/\c<=8) (hu:0<=u/\u<=8) (hv:0<=v/\v<=8):0<=u*v/\u*v<=64/\0<=c*(u*v)/\c*(u*v)<=512:=by
 have h1:0<=u*v:=Int.mul_nonneg hu.1 hv.1
 have h2:u*v<=8*8:=Int.mul_le_mul hu.2 hv.2 hv.1 (by decide)
 have h3:0<=c*(u*v):=Int.mul_nonneg hc.1 h1
 have h4:c*(u*v)<=8*64:=Int.mul_le_mul hc.2 h2 h1 (by decide)
 exact ⟨h1,h2,h3,h4⟩
theorem bg (s x z:Int):0<=aI s x z/\aI s x z<=8:=by
 unfold aI;omega
theorem iK (s x z:Int):6<=ground s x z/\ground s x z<=100:=by
 unfold ground
 have a:=gR (bg s (x / 8) (z / 8)) (u:=8-x % 8) (v:=8-z % 8) (by omega) (by omega)
 have b:=gR (bg s (x / 8+1) (z / 8)) (u:=x % 8) (v:=8-z % 8) (by omega) (by omega)
 have c:=gR (bg s (x / 8) (z / 8+1)) (u:=8-x % 8) (v:=z % 8) (by omega) (by omega)
 have d:=gR (bg s (x / 8+1) (z / 8+1)) (u:=x % 8) (v:=z % 8) (by omega) (by omega)
 omega
def idx (c:Ce):Int:=(c.2.1*16+c.2.2 % 16)*16+c.1 % 16
def fx (c:Ce):Prop:=0<=c.2.1/\c.2.1<32
def pos (c:Ce):Po:=(c.1 / 16,c.2.2 / 16)
def cellAt (p:Po) (i:Int):Ce:=(p.1*16+i % 16,i / 256,p.2*16+i / 16 % 16)
theorem pM {c:Ce} (h:fx c):0<=idx c/\idx c<8192:=by
 unfold idx;unfold fx at h;omega
theorem A7 {c:Ce} (h:fx c):cellAt (pos c) (idx c)=c:=by
 unfold cellAt idx pos
 unfold fx at h
 refine Prod.ext ?_ (Prod.ext ?_ ?_)<;>simp only<;>omega
def made (aa:Int) (p:Po):List Int:=(List.range 8192).map fun i:Nat=>mu ((i:Int)/ 256) (ground aa (p.1*16+(i:Int)% 16) (p.2*16+(i:Int)/ 16 % 16))
theorem dy (aa:Int) (p:Po):(made aa p).length=8192:=by simp [made]
theorem C5 (y g:Int):mu y g=0\/mu y g=1\/mu y g=2\/mu y g=3\/mu y g=8:=by
 unfold mu
 split
 ·exact .inl rfl
 ·split
  ·exact .inr (.inl rfl)
  ·split
   ·exact .inr (.inr (.inl rfl))
   ·split
    ·exact .inr (.inr (.inr (.inl rfl)))
    ·split
     ·exact .inr (.inr (.inr (.inr rfl)))
     ·exact .inl rfl
end Go.bQ
namespace Go.bQ
open Go Go.Vc
end Go.bQ
namespace Go.bQ
open Go Go.Vc Go.aB
end Go.bQ
namespace Go.bQ
open Go Go.Vc Go.aB
end Go.bQ
namespace Go.bQ
open Go Go.Vc Go.aB
theorem Hl : ∀ (n : Nat) (l : List Rn), l.length = n → (∀ r ∈ l, 1 ≤ r.1) → (∀ i q r, l[i]? = some q → l[i + 1]? = some r → q.2 ≠ r.2) → Nm l
 | 0, l, hn, _, _ => by
   have : l = [] := List.eq_nil_of_length_eq_zero hn
   subst this; exact .nil
 | n + 1, l, hn, h1, h2 => by
   rcases k8 l with rfl | ⟨m, q, rfl⟩
   ·simp at hn
   ·have hm : m.length = n := by simpa using hn
    refine .snoc m q (Hl n m hm (fun r hr => h1 r (List.mem_append_left _ hr)) (fun i a b ha hb => ?_)) (h1 q (by simp)) (fun p hp => ?_)
    ·have hb' := (List.getElem?_eq_some_iff.1 hb).1
     exact h2 i a b (by rw [List.getElem?_append_left (by omega)]; exact ha) (by rw [List.getElem?_append_left (by omega)]; exact hb)
    ·have hne : m ≠ [] := by rintro rfl; simp at hp
     have hlen : 0 < m.length := List.length_pos_iff.2 hne
     rw [List.getLast?_eq_getElem?] at hp
     refine h2 (m.length - 1) p q ?_ ?_
     ·rw [List.getElem?_append_left (by omega)]; exact hp
     ·rw [show m.length - 1 + 1 = m.length by omega, List.getElem?_append_right (Nat.le_refl _), Nat.sub_self]; rfl
theorem zW {may : Int → Bool} : ∀ {l : List Rn} {prev : Option Int} {left : Int}, oz may prev left l = true →
  (∀ r ∈ l, 1 ≤ r.1 ∧ may r.2 = true) ∧ (∀ i q r, l[i]? = some q → l[i + 1]? = some r → q.2 ≠ r.2) ∧ ∀ r, l.head? = some r → prev ≠ some r.2
 | [], _, _, _ => ⟨by simp, by simp, by simp⟩
 | r :: t, prev, left, h => by
   unfold oz at h
   split at h
   ·cases h
   ·rename_i hn
    obtain ⟨a1, a2, a3⟩ := zW h
    have hm : may r.2 = true := by
     cases hq : may r.2 with
     | true => rfl
     | false => exact absurd (.inr (.inr (.inl hq))) hn
    have hp : prev ≠ some r.2 := fun e => hn (.inr (.inr (.inr e)))
    refine ⟨fun q hq => ?_, fun i q s hq hs => ?_, fun q hq => ?_⟩
    ·rcases List.mem_cons.1 hq with rfl | hq
     ·exact ⟨by omega, hm⟩
     ·exact a1 q hq
    ·cases i with
     | zero =>
       simp only [List.getElem?_cons_zero, Option.some.injEq] at hq
       subst hq
       simp only [List.getElem?_cons_succ] at hs
       have : t.head? = some s := by cases t <;> simp_all
       intro e
       exact a3 s this (by rw [e])
     | succ i => exact a2 i q s (by simpa using hq) (by simpa using hs)
    ·simp only [List.head?_cons, Option.some.injEq] at hq
     subst hq; exact hp
theorem uQ {may : Int → Bool} {l : List Rn} {n : Int} (h : j3 may l n = true) : bN (aH l) = l ∧ (∀ b ∈ aH l, may b = true) ∧ ((aH l).length : Int) = n := by
 unfold j3 at h
 rw [Bool.and_eq_true] at h
 obtain ⟨a1, a2, _⟩ := zW h.2
 refine ⟨(Hl l.length l rfl (fun r hr => (a1 r hr).1) a2).fix, fun b hb => ?_, ?_⟩
 ·unfold aH at hb
  obtain ⟨r, hr, hb⟩ := List.mem_flatMap.1 hb
  rw [(List.mem_replicate.1 hb).2]
  exact (a1 r hr).2
 ·rw [← bI fun r hr => by have := (a1 r hr).1; omega]
  exact zA h.2
end Go.bQ
namespace Go.bQ
open Go Go.Vc Go.aB
def ow (p:Po):Prop:=(-524288<=p.1/\p.1<524288)/\-524288<=p.2/\p.2<524288
instance (p:Po):Decidable (ow p):=by unfold ow;exact inferInstance
def l8 (p:Po):Int:=if ow p then (p.1+524288)*1048576+(p.2+524288)+1 else 0
theorem Ge {p:Po} (h:ow p):1<=l8 p/\l8 p<=1099511627776:=by
 unfold l8;rw [if_pos h];unfold ow at h;omega
theorem xL {p:Po} (h:¬ow p):l8 p=0:=by unfold l8;rw [if_neg h]
end Go.bQ
namespace Go.bQ
open Go Go.Vc Go.aB
def aR {α:Type} (q:α->Bool):List α->Int
 | []=> -1
 |x::t=>if q x then 0 else if aR q t<0 then -1 else aR q t+1
theorem gD {α : Type} {q : α → Bool} : ∀ {l : List α}, (∀ y ∈ l, q y = false) → aR q l = -1
 | [], _ => rfl
 | x :: t, h => by
   have h1 := h x (.head _)
   have h2 := gD (l := t) fun y hy => h y (.tail _ hy)
   unfold aR
   rw [if_neg (by rw [h1]; decide), if_pos (by omega)]
theorem oe {α : Type} {q : α → Bool} : ∀ {l : List α} {k : Nat} {x : α}, l[k]? = some x → q x = true → (∀ j, j < k → ∀ y, l[j]? = some y → q y = false) → aR q l = k
 | [], k, x, h, _, _ => by simp at h
 | y :: t, 0, x, h, hq, _ => by
   simp at h; subst h
   unfold aR
   rw [if_pos hq]; rfl
 | y :: t, k + 1, x, h, hq, hn => by
   have h1 := hn 0 (by omega) y rfl
   have h2 := oe (l := t) (k := k) (x := x) (by simpa using h) hq (fun j hj z hz => hn (j + 1) (by omega) z (by simpa using hz))
   unfold aR
   rw [if_neg (by rw [h1]; decide), if_neg (by omega), h2]
   omega
theorem cO {α : Type} (q : α → Bool) : ∀ (l : List α), (aR q l = -1 ∧ ∀ y ∈ l, q y = false) ∨ ∃ k x, l[k]? = some x ∧ q x = true ∧ aR q l = (k : Nat) ∧ ∀ j, j < k → ∀ y, l[j]? = some y → q y = false
 | [] => .inl ⟨rfl, by simp⟩
 | x :: t => by
   cases hq : q x with
   | true => exact .inr ⟨0, x, rfl, hq, by unfold aR; rw [if_pos hq]; rfl, by omega⟩
   | false =>
     rcases cO q t with ⟨h1, h2⟩ | ⟨k, y, h1, h2, h3, h4⟩
     ·refine .inl ⟨by unfold aR; rw [if_neg (by rw [hq]; decide), if_pos (by omega)], fun y hy => ?_⟩
      rcases List.mem_cons.1 hy with rfl | hy
      ·exact hq
      ·exact h2 y hy
     ·refine .inr ⟨k + 1, y, by simpa using h1, h2, by unfold aR; rw [if_neg (by rw [hq]; decide), if_neg (by omega), h3]; omega, fun j hj z hz => ?_⟩
      cases j with
      | zero => simp at hz; subst hz; exact hq
      | succ j => exact h4 j (by omega) z (by simpa using hz)
theorem iS {α β : Type} (f : α → β) (q : β → Bool) : ∀ l : List α, aR q (l.map f) = aR (fun a => q (f a)) l
 | [] => rfl
 | x :: t => by simp only [List.map_cons, aR, iS f q t]
end Go.bQ
namespace Go.bQ
open Go Go.Vc Go.aB
abbrev eU:=BitVec 16
abbrev ks (b:List Int):Prop:=∀c ∈ b,0<=c/\c<256
def cI (v:eU):Int:=(v.toNat:Nat)
def yn (c:eU):eU:=if c.msb then (c<<<1)^^^ 0x1021#16 else c<<<1
def vX (c:eU):eU:=yn (yn (yn (yn c)))
def yB (c:eU):eU:=vX (vX c)
def gq (x:Int):eU:=BitVec.ofInt 16 x
def I9 (c:eU) (x:Int):eU:=yB (c ^^^(gq x<<<8))
def oB (c:eU) (b:List Int):eU:=b.foldl I9 c
def jY (b:List Int):eU:=oB 0xFFFF#16 b
def xG (b:List Int):List Int:=[cI (jY b)/ 256,cI (jY b)% 256]
theorem nR (v:eU):0<=cI v/\cI v<65536:=by unfold cI;have:=v.isLt;omega
theorem Bq {a b:eU}:cI a=cI b ↔ a=b:=by
 unfold cI
 refine ⟨fun h=>BitVec.eq_of_toNat_eq (by omega),fun h=>by rw [h]⟩
theorem jV {x:Int} (h:0<=x/\x<65536):(gq x).toNat=x.toNat:=by
 unfold gq
 rw [BitVec.toNat_ofInt]
 simp only [show ((2 ^ 16:Nat):Int)=65536 from rfl]
 rw [Int.emod_eq_of_lt h.1 h.2]
theorem yp {x:Int} (h:0<=x/\x<65536):cI (gq x)=x:=by unfold cI;rw [jV h];omega
theorem Im (v:eU):gq (cI v)=v:=Bq.1 (yp (nR v))
theorem pV {a b:eU} (h:∀i:Nat,i<16->a.getLsbD i=b.getLsbD i):a=b:=BitVec.eq_of_getLsbD_eq h
theorem DK {i:Nat} (h:i<16):i=0\/i=1\/i=2\/i=3\/i=4\/i=5\/i=6\/i=7\/i=8\/i=9\/i=10\/i=11\/i=12\/i=13\/i=14\/i=15:=by omega
theorem G3 (a b:eU) (n:Nat):(a ^^^ b)<<<n=(a<<<n)^^^(b<<<n):=by
 apply pV
 intro i hi
 simp only [BitVec.getLsbD_xor,BitVec.getLsbD_shiftLeft]
 cases decide (i<16)<;>cases decide (i<n)<;>simp
theorem tG (a b:eU):yn (a ^^^ b)=yn a ^^^ yn b:=by
 unfold yn
 rw [BitVec.msb_xor,G3]
 cases a.msb<;>cases b.msb<;>simp
 ·rw [BitVec.xor_assoc]
 ·rw [BitVec.xor_assoc,BitVec.xor_assoc]
  congr 1
  rw [BitVec.xor_comm]
 ·generalize a<<<1=x
  generalize b<<<1=y
  apply pV
  intro i _
  simp only [BitVec.getLsbD_xor]
  cases x.getLsbD i<;>cases y.getLsbD i<;>cases (4129#16).getLsbD i<;>rfl
theorem tH (a b:eU):vX (a ^^^ b)=vX a ^^^ vX b:=by unfold vX;rw [tG,tG,tG,tG]
theorem G4 (a b:eU):yB (a ^^^ b)=yB a ^^^ yB b:=by unfold yB;rw [tH,tH]
theorem yz (c:eU):c.msb=true ↔ 32768<=c.toNat:=by
 rw [BitVec.msb_eq_decide];simp
theorem qR {c:eU} (h:c.toNat<32768):yn c=c<<<1/\(c<<<1).toNat=2*c.toNat:=by
 constructor
 ·unfold yn
  rw [if_neg]
  rw [yz];omega
 ·rw [BitVec.toNat_shiftLeft,Nat.shiftLeft_eq]
  omega
theorem gM {c : eU} (h : yn c = 0#16) : c = 0#16 := by
 unfold yn at h
 split at h
 ·have := congrArg (fun v : eU => v.getLsbD 0) h
  simp at this
 ·rename_i hm
  have hm : c.toNat < 32768 := by rw [yz] at hm; omega
  have h2 := (qR hm).2
  rw [h] at h2
  exact BitVec.eq_of_toNat_eq (by simp at h2 ⊢; omega)
theorem An {c:eU} (h:yB c=0#16):c=0#16:=by
 unfold yB vX at h
 exact gM (gM (gM (gM (gM (gM (gM (gM h)))))))
theorem qS {a b : eU} : a ^^^ b = 0#16 ↔ a = b := by
 constructor
 ·intro h
  have := congrArg (fun v => v ^^^ b) h
  simpa [BitVec.xor_assoc] using this
 ·rintro rfl; exact BitVec.xor_self
theorem G5 {a b:eU} (h:yB a=yB b):a=b:=by
 rw [<-qS]at h ⊢
 rw [<-G4]at h
 exact An h
theorem qT (c:eU) (m n:Nat):(c<<<m)<<<n=c<<<(m+n):=(BitVec.shiftLeft_add c m n).symm
theorem tI {c:eU} (h:c.toNat<4096):vX c=c<<<4:=by
 unfold vX
 have h1:=qR (c:=c) (by omega)
 rw [h1.1]
 have h2:=qR (c:=c<<<1) (by omega)
 rw [h2.1]
 have h3:=qR (c:=c<<<1<<<1) (by omega)
 rw [h3.1]
 have h4:=qR (c:=c<<<1<<<1<<<1) (by omega)
 rw [h4.1,qT,qT,qT]
theorem Ao (v y:eU) (hy:y.toNat<16):(v<<<4)^^^ vX (((v>>>12)^^^ y)<<<12)=vX (v ^^^(y<<<12)):=by
 have e:v ^^^(y<<<12)=(((v>>>12)^^^ y)<<<12)^^^(v &&& 0xFFF#16):=by
  apply pV
  intro i hi
  simp only [BitVec.getLsbD_xor,BitVec.getLsbD_shiftLeft,BitVec.getLsbD_ushiftRight,BitVec.getLsbD_and]
  rcases DK hi with rfl|rfl|rfl|rfl|rfl|rfl|rfl|rfl|rfl|rfl|rfl|rfl|rfl|rfl|rfl|rfl<;>simp
 have hl:(v &&& 0xFFF#16).toNat<4096:=by
  rw [BitVec.toNat_and]
  exact Nat.lt_of_le_of_lt Nat.and_le_right (by decide)
 have e2:(v &&& 0xFFF#16)<<<4=v<<<4:=by
  apply pV
  intro i hi
  simp only [BitVec.getLsbD_shiftLeft,BitVec.getLsbD_and]
  rcases DK hi with rfl|rfl|rfl|rfl|rfl|rfl|rfl|rfl|rfl|rfl|rfl|rfl|rfl|rfl|rfl|rfl<;>simp
 rw [e,tH,tI hl,e2,BitVec.xor_comm]
theorem DL (v x:eU) (hx:x.toNat<256):vX (vX (v ^^^((x>>>4)<<<12))^^^((x &&& 15#16)<<<12))=yB (v ^^^(x<<<8)):=by
 have e:v ^^^(x<<<8)=(v ^^^((x>>>4)<<<12))^^^((x &&& 15#16)<<<8):=by
  apply pV
  intro i hi
  simp only [BitVec.getLsbD_xor,BitVec.getLsbD_shiftLeft,BitVec.getLsbD_ushiftRight,BitVec.getLsbD_and]
  rcases DK hi with rfl|rfl|rfl|rfl|rfl|rfl|rfl|rfl|rfl|rfl|rfl|rfl|rfl|rfl|rfl|rfl<;>simp
 have hl:(x &&& 15#16).toNat<16:=by
  rw [BitVec.toNat_and]
  exact Nat.lt_of_le_of_lt Nat.and_le_right (by decide)
 have hl2:((x &&& 15#16)<<<8).toNat<4096:=by
  rw [BitVec.toNat_shiftLeft,Nat.shiftLeft_eq];omega
 unfold yB
 rw [e,tH (v ^^^ _),tI hl2,qT]
theorem Cq {c:eU} (h:c.toNat<256):yB c=c<<<8:=by
 unfold yB
 rw [tI (c:=c) (by omega),tI (c:=c<<<4) (by rw [BitVec.toNat_shiftLeft,Nat.shiftLeft_eq];omega),qT]
theorem nS (c : eU) (a b : List Int) : oB c (a ++ b) = oB (oB c a) b := List.foldl_append ..
theorem G1 (c : eU) {h l : Int} (hh : 0 ≤ h ∧ h < 256) (hl : 0 ≤ l ∧ l < 256) : oB c [h, l] = 0#16 ↔ cI c = h * 256 + l := by
 show yB (yB (c ^^^ (gq h <<< 8)) ^^^ (gq l <<< 8)) = 0#16 ↔ _
 have n1 : (gq l).toNat < 256 := by rw [jV (by omega)]; omega
 have n2 : (gq h).toNat < 256 := by rw [jV (by omega)]; omega
 have z : yB 0#16 = 0#16 := by decide
 have e1 : yB (yB (c ^^^ (gq h <<< 8)) ^^^ (gq l <<< 8)) = 0#16 ↔ c = (gq h <<< 8) ^^^ gq l := by
  constructor
  ·intro q
   have q1 := An q
   rw [qS, ← Cq n1] at q1
   have q2 := G5 q1
   rw [← q2, BitVec.xor_comm, BitVec.xor_assoc, BitVec.xor_self, BitVec.xor_zero]
  ·rintro rfl
   rw [show (gq h <<< 8 ^^^ gq l) ^^^ gq h <<< 8 = gq l by rw [BitVec.xor_comm, ← BitVec.xor_assoc, BitVec.xor_self, BitVec.zero_xor], Cq n1, BitVec.xor_self, z]
 rw [e1]
 have e2 : ((gq h <<< 8) ^^^ gq l).toNat = h.toNat * 256 + l.toNat := by
  have : (gq h <<< 8) ^^^ gq l = (gq h <<< 8) ||| gq l := by
   apply pV
   intro i hi
   have hb : ∀ j, 8 ≤ j → (gq l).getLsbD j = false := fun j hj => Nat.testBit_lt_two_pow (Nat.lt_of_lt_of_le n1 (Nat.pow_le_pow_right (n := 2) (by decide) hj))
   simp only [BitVec.getLsbD_xor, BitVec.getLsbD_or, BitVec.getLsbD_shiftLeft]
   by_cases h8 : i < 8
   ·simp [h8]
   ·rw [hb i (by omega)]; simp
  rw [this, BitVec.toNat_or, BitVec.toNat_shiftLeft, jV (x := h) (by omega), jV (x := l) (by omega), Nat.shiftLeft_eq]
  rw [Nat.mod_eq_of_lt (by omega)]
  have := Nat.two_pow_add_eq_or_of_lt (i := 8) (b := l.toNat) (by omega) h.toNat
  rw [Nat.mul_comm h.toNat, ← this]
 constructor
 ·intro q
  rw [q]; unfold cI; rw [e2]; omega
 ·intro q
  apply BitVec.eq_of_toNat_eq
  rw [e2]
  unfold cI at q; omega
theorem wrap_u16 (x:Int):IntKind.wrap .u16 x=x % 65536:=by
 simp [IntKind.wrap,IntKind.bits,IntKind.signed]
theorem kO (n : Nat) (hn : 16 ≤ n) (v : eU) : (BitVec.ofInt n (cI v)).toNat = v.toNat := by
 unfold cI
 rw [BitVec.toNat_ofInt]
 have h1 := v.isLt
 have h2 : (2 : Nat) ^ 16 ≤ 2 ^ n := Nat.pow_le_pow_right (by decide) hn
 generalize (2 : Nat) ^ n = m at *
 rw [Int.emod_eq_of_lt (by omega) (by omega)]
 omega
theorem vr (a b:eU):dt .u16 (cI a) (cI b)=cI (a ^^^ b):=by
 show IntKind.wrap .u16 ((BitVec.ofInt 16 (cI a)^^^ BitVec.ofInt 16 (cI b)).toNat:Nat)=_
 rw [BitVec.toNat_xor,kO 16 (by decide),kO 16 (by decide),<-BitVec.toNat_xor,wrap_u16]
 show cI _ % 65536=cI _
 have:=nR (a ^^^ b)
 omega
theorem FN (a b:eU):dt .i64 (cI a) (cI b)=cI (a ^^^ b):=by
 show IntKind.wrap .i64 ((BitVec.ofInt 64 (cI a)^^^ BitVec.ofInt 64 (cI b)).toNat:Nat)=_
 rw [BitVec.toNat_xor,kO 64 (by decide),kO 64 (by decide),<-BitVec.toNat_xor]
 have:=nR (a ^^^ b)
 exact ag (n:=cI (a ^^^ b)) (by unfold inI;omega)
theorem BB (v:eU) (n:Nat):cI (v<<<n)=cI v*2 ^ n % 65536:=by
 unfold cI
 rw [BitVec.toNat_shiftLeft,Nat.shiftLeft_eq,Int.natCast_emod,Int.natCast_mul,Int.natCast_pow]
 rfl
theorem Bs (v:eU) (n:Nat):cI (v>>>n)=cI v / 2 ^ n:=by
 unfold cI
 rw [BitVec.toNat_ushiftRight,Nat.shiftRight_eq_div_pow,Int.natCast_ediv,Int.natCast_pow]
 rfl
theorem FO (v:eU):v.msb=true ↔ 32768<=cI v:=by rw [yz];unfold cI;omega
theorem G6 (v : eU) : (if 65536 ≤ cI v * 2 then dt .i64 (cI v * 2 - 65536) 4129 else cI v * 2) = cI (yn v) := by
 have hb := nR v
 have h1 : cI (v <<< 1) = cI v * 2 % 65536 := BB v 1
 unfold yn
 by_cases h : v.msb = true
 ·have hm := (FO v).1 h
  rw [if_pos h, if_pos (by omega), ← FN, h1]
  have e1 : cI v * 2 % 65536 = cI v * 2 - 65536 := by omega
  rw [e1]
  rfl
 ·have hm := mt (FO v).2 h
  rw [if_neg h, if_neg (by omega), h1]
  omega
theorem Cd (v : eU) : cI (v &&& 0x8000#16) = 0 ↔ v.msb = false := by
 have e15 : v.msb = v.getLsbD 15 := rfl
 constructor
 ·intro h
  have h0 : v &&& 0x8000#16 = 0#16 := Bq.1 (by rw [h]; rfl)
  have := congrArg (fun u : eU => u.getLsbD 15) h0
  simp only [BitVec.getLsbD_and] at this
  rw [e15]
  simpa using this
 ·intro h
  have h0 : v &&& 0x8000#16 = 0#16 := by
   apply pV
   intro i hi
   rw [e15] at h
   simp only [BitVec.getLsbD_and]
   rcases DK hi with rfl | rfl | rfl | rfl | rfl | rfl | rfl | rfl | rfl | rfl | rfl | rfl | rfl | rfl | rfl | rfl <;> first | (simp; done) | simpa using h
  rw [h0]; rfl
theorem Ie (a b:eU):vH .u16 (cI a) (cI b)=cI (a &&& b):=by
 show IntKind.wrap .u16 ((BitVec.ofInt 16 (cI a)&&& BitVec.ofInt 16 (cI b)).toNat:Nat)=_
 rw [BitVec.toNat_and,kO 16 (by decide),kO 16 (by decide),<-BitVec.toNat_and,wrap_u16]
 show cI _ % 65536=cI _
 have:=nR (a &&& b)
 omega
theorem Cc (v:eU) (n:Nat):IntKind.wrap .u16 (cI v*2 ^ n)=cI (v<<<n):=by rw [wrap_u16,BB]
theorem Fo (v:eU) (n:Nat):(cI v).fdiv (2 ^ n)=cI (v>>>n):=by
 rw [Bs,Int.fdiv_eq_ediv_of_nonneg]
 exact Int.le_of_lt (Int.pow_pos (by decide))
theorem Jy {x:Int} (h:0<=x/\x<256):IntKind.wrap .u16 (x.fdiv (2 ^ 4))=cI (gq x>>>4):=by
 rw [Bs,yp (by omega),Int.fdiv_eq_ediv_of_nonneg _ (by decide),wrap_u16]
 simp only [show (2:Int)^ 4=16 from rfl]
 omega
theorem Jz {x:Int} (h:0<=x/\x<256):IntKind.wrap .u16 (vH .u8 x 15)=cI (gq x &&& 15#16):=by
 have e:vH .u8 x 15=cI (gq x &&& 15#16):=by
  show IntKind.wrap .u8 ((BitVec.ofInt 8 x &&& BitVec.ofInt 8 15).toNat:Nat)=_
  have e8:(BitVec.ofInt 8 x).toNat=(gq x).toNat:=by
   rw [jV (by omega),BitVec.toNat_ofInt]
   simp only [show ((2 ^ 8:Nat):Int)=256 from rfl]
   rw [Int.emod_eq_of_lt h.1 h.2]
  rw [BitVec.toNat_and,e8]
  unfold cI
  rw [BitVec.toNat_and]
  have:(gq x).toNat &&&(15#16).toNat<16:=Nat.lt_of_le_of_lt Nat.and_le_right (by decide)
  show IntKind.wrap .u8 (((gq x).toNat &&&(15#16).toNat:Nat):Int)=_
  simp only [IntKind.wrap,IntKind.bits,IntKind.signed,Bool.false_and,Bool.false_eq_true,if_false,show (2:Int)^ 8=256 from rfl]
  omega
 rw [e,wrap_u16]
 have:=nR (gq x &&& 15#16)
 omega
theorem Fp {a b : eU} (ha : a.toNat < 16) (hb : b.toNat < 16) : (a ^^^ b).toNat < 16 := by
 rw [BitVec.toNat_xor]
 exact Nat.xor_lt_two_pow (n := 4) ha hb
theorem Fq (v:eU):(v>>>12).toNat<16:=by
 rw [BitVec.toNat_ushiftRight,Nat.shiftRight_eq_div_pow]
 have:=v.isLt
 omega
theorem Hm {x:Int} (h:0<=x/\x<256):(gq x>>>4).toNat<16:=by
 rw [BitVec.toNat_ushiftRight,Nat.shiftRight_eq_div_pow,jV (by omega)]
 omega
theorem Ho (x:eU):(x &&& 15#16).toNat<16:=by
 rw [BitVec.toNat_and]
 exact Nat.lt_of_le_of_lt Nat.and_le_right (by decide)
def tv (i:Nat):Value:=.int .u16 (cI (vX (gq i<<<12)))
def tS:List Value:=[tv 0,tv 1,tv 2,tv 3,tv 4,tv 5,tv 6,tv 7,tv 8,tv 9,tv 10,tv 11,tv 12,tv 13,tv 14,tv 15]
def tT (k:Nat):List Value:=tS.take k++List.replicate (16-k) (.int .u16 0)
theorem Ig {k:Nat} (hk:k<16):(tT k).set k (tv k)=tT (k+1):=by
 rcases DK hk with rfl|rfl|rfl|rfl|rfl|rfl|rfl|rfl|rfl|rfl|rfl|rfl|rfl|rfl|rfl|rfl<;>rfl
theorem Hn {u:eU} (hu:u.toNat<16):tS[(cI u).toNat]? =some (.int .u16 (cI (vX (u<<<12)))):=by
 have e:∀k:Nat,k<16->tS[k]? =some (tv k):=fun k hk=>by
  rcases DK hk with rfl|rfl|rfl|rfl|rfl|rfl|rfl|rfl|rfl|rfl|rfl|rfl|rfl|rfl|rfl|rfl<;>rfl
 have h1:(cI u).toNat=u.toNat:=rfl
 rw [h1,e _ hu]
 unfold tv
 have:gq (u.toNat:Int)=u:=Im u
 rw [this]
theorem Du (v:eU) {x:Int} (h:0<=x/\x<256):
  cI ((((v<<<4)^^^ vX (((v>>>12)^^^(gq x>>>4))<<<12))<<<4)^^^ vX (((((v<<<4)^^^ vX (((v>>>12)^^^(gq x>>>4))<<<12))>>>12)^^^(gq x &&& 15#16))<<<12))=cI (I9 v x):=by
 rw [Ao v _ (Hm h),Ao _ _ (Ho _),DL v _ (by rw [jV (by omega)];omega)]
 rfl
end Go.bQ
namespace Go.bQ
open Go Go.Vc Go.aB
def be:Nat->Int->List Int
 |0,_=> []
 |m+1,n=>n / 256 ^ m % 256::be m n
def bz (b : List Int) : Int := b.foldl (fun n c => n * 256 + c) 0
def Aa (v:Int) (body:List Int):List Int:=be 4 v++be 3 body.length++body
def sJ (b:List Int):List Int:=b++xG b
def tB (v:Int) (body:List Int):List Int × Int:=if v<1\/v>1073741824\/(body.length:Int)>65536 then ([],1)else (sJ (Aa v body),0)
def gN (b:List Int):List Int × Int:=if b.length<2 then ([],3)else if jY b=0#16 then (b.take (b.length-2),0)else ([],4)
def dS (b:List Int):Int × List Int × Int:=
 if (gN b).2≠0 then (0,[],(gN b).2)
 else if (gN b).1.length<7 then (0,[],3)
 else if bz ((gN b).1.take 4)<1\/bz ((gN b).1.take 4)>1073741824\/bz (((gN b).1.drop 4).take 3)>65536\/bz (((gN b).1.drop 4).take 3)≠(((gN b).1.drop 7).length:Int)then (0,[],2)
 else (bz ((gN b).1.take 4),(gN b).1.drop 7,0)
theorem vt:∀(m:Nat) (n:Int),(be m n).length=m
 |0,_=>rfl
 |m+1,n=>by simp [be,vt m n]
theorem FJ:∀(m:Nat) (n:Int),ks (be m n)
 |0,_=>fun c hc=>by cases hc
 |m+1,n=>fun c hc=>by
  rcases List.mem_cons.1 hc with rfl|hc
  ·omega
  ·exact FJ m n c hc
theorem vp (b:List Int) (c:Int):bz (b++ [c])=bz b*256+c:=by unfold bz;rw [List.foldl_append];rfl
theorem G0 (b:List Int):ks (xG b):=fun c hc=>by
 have:=nR (jY b)
 simp only [xG,List.mem_cons,List.not_mem_nil,or_false]at hc
 rcases hc with rfl|rfl<;>omega
theorem FK (b:List Int):(xG b).length=2:=rfl
theorem ks.app {a b:List Int} (ha:ks a) (hb:ks b):ks (a++b):=fun c hc=>(List.mem_append.1 hc).elim (ha c) (hb c)
theorem Cf {v:Int} {body:List Int} (h:ks body):ks (Aa v body):=((FJ 4 v).app (FJ 3 _)).app h
theorem FL {b:List Int} (h:ks b):ks (sJ b):=h.app (G0 b)
theorem Il {v:Int} {body:List Int} (h:ks body):ks (tB v body).1:=by
 unfold tB
 split
 ·intro c hc;cases hc
 ·exact FL (Cf h)
theorem Ab (v:Int) (body:List Int):(Aa v body).length=7+body.length:=by unfold Aa;simp [vt];omega
theorem wu (b:List Int):(sJ b).length=b.length+2:=by unfold sJ;rw [List.length_append,FK]
theorem Eb {b:List Int}:(dS b).2.2=0->1<=(dS b).1/\(dS b).1<=1073741824:=by
 intro h
 unfold dS at h ⊢
 split at h
 ·rename_i q;exact absurd h q
 ·rename_i q
  rw [if_neg q]
  split at h
  ·cases h
  ·rename_i q2
   rw [if_neg q2]
   split at h
   ·cases h
   ·rename_i q3
    rw [if_neg q3]
    simp only [not_or]at q3
    simp only;omega
theorem IF {b:List Int}:(dS b).2.2≠0->(dS b).1=0/\(dS b).2.1=[]:=by
 intro h
 unfold dS at h ⊢
 split
 ·exact ⟨rfl,rfl⟩
 ·split
  ·exact ⟨rfl,rfl⟩
  ·split
   ·exact ⟨rfl,rfl⟩
   ·rename_i q q2 q3
    rw [if_neg q,if_neg q2,if_neg q3]at h
    exact absurd rfl h
theorem Ic {b:List Int} {h l:Int} {a:List Int} (e:b=a++ [h,l]) (hh:0<=h/\h<256) (hl:0<=l/\l<256):gN b=if h*256+l=cI (jY a)then (a,0)else ([],4):=by
 have hn:b.length=a.length+2:=by rw [e];simp
 have hc:jY b=0#16 ↔ h*256+l=cI (jY a):=by
  rw [e];unfold jY
  rw [nS,G1 _ hh hl]
  exact ⟨fun h=>h.symm,fun h=>h.symm⟩
 unfold gN
 rw [if_neg (by omega)]
 by_cases q:jY b=0#16
 ·rw [if_pos q,if_pos (hc.1 q),hn,e];simp
 ·rw [if_neg q,if_neg fun h=>q (hc.2 h)]
theorem Cp {b : List Int} (hb : ks b) : ∀ k : Nat, 0 ≤ bz (b.take k) ∧ bz (b.take k) < 256 ^ k
 | 0 => by rw [List.take_zero]; exact ⟨Int.le_refl 0, by decide⟩
 | k + 1 => by
   obtain ⟨h1, h2⟩ := Cp hb k
   rw [List.take_add_one]
   cases hx : b[k]? with
   | none =>
     rw [Int.pow_succ]
     simp only [Option.toList_none, List.append_nil]
     generalize (256 : Int) ^ k = p at *
     omega
   | some x =>
     have := hb x (List.mem_of_getElem? hx)
     rw [Int.pow_succ]
     simp only [Option.toList_some]
     rw [vp]
     generalize (256 : Int) ^ k = p at *
     omega
theorem vo {b:List Int} (hb:ks b) {k:Nat} (hk:k<=4):0<=bz (b.take k)/\bz (b.take k)<4294967296:=by
 obtain ⟨h1,h2⟩:=Cp hb k
 have h3:(256:Int)^ k<=4294967296:=by
  rcases k with _|_|_|_|_|k
  ·decide
  ·decide
  ·decide
  ·decide
  ·decide
  ·omega
 exact ⟨h1,Int.lt_of_lt_of_le h2 h3⟩
theorem Fu {n c : Int} (hn : 0 ≤ n ∧ n < 281474976710656) (hc : 0 ≤ c ∧ c < 256) : yD .i64 (n * 256) c = n * 256 + c := by
 show IntKind.wrap .i64 ((BitVec.ofInt 64 (n * 256) ||| BitVec.ofInt 64 c).toNat : Nat) = _
 have e1 : (BitVec.ofInt 64 (n * 256)).toNat = 2 ^ 8 * n.toNat := by
  rw [BitVec.toNat_ofInt]
  simp only [show ((2 ^ 64 : Nat) : Int) = 18446744073709551616 from rfl, show (2 : Nat) ^ 8 = 256 from rfl]
  omega
 have e2 : (BitVec.ofInt 64 c).toNat = c.toNat := by
  rw [BitVec.toNat_ofInt]
  simp only [show ((2 ^ 64 : Nat) : Int) = 18446744073709551616 from rfl]
  omega
 rw [BitVec.toNat_or, e1, e2, ← Nat.two_pow_add_eq_or_of_lt (i := 8) (b := c.toNat) (by omega) n.toNat]
 simp only [show (2 : Nat) ^ 8 = 256 from rfl]
 have : ((256 * n.toNat + c.toNat : Nat) : Int) = n * 256 + c := by omega
 rw [this]
 exact wI
abbrev iH:=Int × List Int
structure Dk where
 room:Int
 dW:Int
 wait:Int
 safe:List iH
 l:List iH
def Dd : Bool → List iH → iH → List iH
 | done, [], w => if done then [] else [w]
 | done, x :: t, w => (if done = false ∧ x.1 ≥ w.1 then [w] else []) ++ (if x.1 ≠ w.1 then [x] else []) ++ Dd (done || decide (x.1 ≥ w.1)) t w
def lay (l:List iH) (w:iH):List iH:=Dd false l w
def kG (d:Dk):List iH:=d.l.foldl lay d.safe
def je (l:List iH):Nat:=(l.map fun x=>x.2.length).sum
def iC (l:List iH) (k:Int):Option (List Int):=(l.find? fun x=>x.1==k).map (·.2)
def ey (d:Dk):Dk × Bool:=if 0<d.wait then ({d with wait:=0},false)else if 0<d.dW then ({d with dW:=d.dW-1},true)else (d,false)
def ir (d:Dk) (k:Int) (b:List Int):Dk × Int:=
 if (ey d).2=true then ((ey d).1,9)else if (je (lay (kG d) (k,b)):Int)>d.room then ((ey d).1,8)else ({(ey d).1 with l:=d.l++ [(k,b)]},0)
def getD (d : Dk) (k : Int) : List Int := (iC (kG d) k).getD []
def lZ (d:Dk):Dk × Int:=if (ey d).2=true then ((ey d).1,9)else ({(ey d).1 with safe:=kG d,l:=[]},0)
theorem xk:∀(l:List iH) (w:iH),Dd true l w=l.filter fun x=>decide (x.1≠w.1)
 | [],_=>rfl
 |x::t,w=>by
  unfold Dd
  rw [if_neg (by simp),Bool.true_or,xk t w,List.filter_cons]
  by_cases h:x.1=w.1<;>simp [h]
theorem mC:∀(l:List iH) (w:iH),(lay l w).Perm (w::l.filter fun x=>decide (x.1≠w.1))
 | [],_=> .refl _
 |x::t,w=>by
  unfold lay Dd
  rw [Bool.false_or]
  by_cases h:x.1>=w.1
  ·rw [if_pos ⟨rfl,h⟩,decide_eq_true h,xk,List.filter_cons]
   by_cases h2:x.1=w.1
   ·rw [if_neg (by simp [h2]),if_neg (by simp [h2])];exact .refl _
   ·rw [if_pos h2,if_pos (by simp [h2])];exact .refl _
  ·rw [if_neg fun q=>h q.2,decide_eq_false h,if_pos (by omega),List.filter_cons,if_pos (by simp;omega)]
   have ih:=mC t w
   unfold lay at ih
   exact (List.Perm.cons x ih).trans (List.Perm.swap _ _ _)
def dw (l:List iH):List Int:=l.map (·.1)
theorem yy {l:List iH} (p:iH->Bool) (h:(dw l).Nodup):(dw (l.filter p)).Nodup:=h.sublist ((List.filter_sublist).map _)
theorem DE {l:List iH} {w:iH} (h:(dw l).Nodup):(dw (lay l w)).Nodup:=by
 refine ((mC l w).map (·.1)).nodup_iff.2 ?_
 rw [List.map_cons]
 refine List.nodup_cons.2 ⟨fun hm=> ?_,yy _ h⟩
 obtain ⟨x,hx,e⟩:=List.mem_map.1 hm
 have:=(List.mem_filter.1 hx).2
 simp at this
 exact this e
theorem nA:∀(t:List iH) {l:List iH},(dw l).Nodup->(dw (t.foldl lay l)).Nodup
 | [],_,h=>h
 |w::t,_,h=>nA t (DE h)
theorem wP {a b:List iH} (h:a.Perm b):je a=je b:=(h.map fun x:iH=>x.2.length).sum_nat
theorem kH (x:iH) (t:List iH):je (x::t)=x.2.length+je t:=rfl
theorem rX {l : List iH} (h : (dw l).Nodup) {k : Int} {b : List Int} : iC l k = some b ↔ (k, b) ∈ l := by
 unfold iC
 induction l with
 | nil => simp
 | cons x t ih =>
   have hn := List.nodup_cons.1 h
   rw [List.find?_cons]
   by_cases e : x.1 = k
   ·rw [beq_iff_eq.2 e]
    simp only [Option.map_some, Option.some.injEq, List.mem_cons]
    constructor
    ·rintro rfl; exact .inl (by rw [← e])
    ·rintro (q | q)
     ·rw [← q]
     ·exact absurd (List.mem_map.2 ⟨_, q, e.symm⟩) hn.1
   ·rw [show (x.1 == k) = false by simpa using e, ih hn.2]
    simp only [List.mem_cons]
    constructor
    ·exact .inr
    ·rintro (q | q)
     ·exact absurd (by rw [← q]) e
     ·exact q
theorem rW {l:List iH} {k:Int}:iC l k=none ↔ ∀x ∈ l,x.1≠k:=by
 unfold iC
 rw [Option.map_eq_none_iff,List.find?_eq_none]
 simp
theorem CT {a b:List iH} (h:a.Perm b) (ha:(dw a).Nodup) (k:Int):iC a k=iC b k:=by
 have hb:(dw b).Nodup:=(h.map fun x:iH=>x.1).nodup_iff.1 ha
 cases q:iC b k with
 |some x=>exact (rX ha).2 (h.mem_iff.2 ((rX hb).1 q))
 |none=>exact rW.2 fun x hx=>rW.1 q x (h.mem_iff.1 hx)
theorem sT {l : List iH} (h : (dw l).Nodup) (k : Int) : je (l.filter fun x => decide (x.1 ≠ k)) + ((iC l k).getD []).length = je l := by
 induction l with
 | nil => rfl
 | cons x t ih =>
   have hn := List.nodup_cons.1 h
   rw [List.filter_cons]
   by_cases e : x.1 = k
   ·rw [if_neg (by simp [e])]
    have hg : iC (x :: t) k = some x.2 := by unfold iC; rw [List.find?_cons, beq_iff_eq.2 e]; rfl
    have ht : t.filter (fun x => decide (x.1 ≠ k)) = t := List.filter_eq_self.2 fun y hy => by
     simp only [ne_eq, decide_not, Bool.not_eq_true', decide_eq_false_iff_not]
     intro q
     exact hn.1 (List.mem_map.2 ⟨y, hy, q.trans e.symm⟩)
    rw [hg, ht, kH, Option.getD_some]; omega
   ·rw [if_pos (by simp [e])]
    have hg : iC (x :: t) k = iC t k := by unfold iC; rw [List.find?_cons, show (x.1 == k) = false by simpa using e]
    have := ih hn.2
    rw [hg, kH, kH]; omega
theorem ES {l:List iH} (h:(dw l).Nodup) (w:iH):je (lay l w)+((iC l w.1).getD []).length=je l+w.2.length:=by
 have:=sT h w.1
 rw [wP (mC l w),kH];omega
structure ke (d:Dk):Prop where
 nd:(dw d.safe).Nodup
 len:∀k,(je ((d.l.take k).foldl lay d.safe):Int)<=d.room
 w:0<=d.wait/\d.wait<=1
 f:0<=d.dW/\d.dW<=9223372036854775807
 r:0<=d.room/\d.room<=1048576
theorem ke.now {d:Dk} (h:ke d):(dw (kG d)).Nodup:=nA _ h.nd
theorem ke.Gt {d:Dk} (h:ke d):(je (kG d):Int)<=d.room:=by
 have:=h.len d.l.length
 rwa [List.take_length]at this
theorem fE (d:Dk):(ey d).1.safe=d.safe/\(ey d).1.l=d.l/\(ey d).1.room=d.room:=by
 unfold ey
 split
 ·exact ⟨rfl,rfl,rfl⟩
 ·split<;>exact ⟨rfl,rfl,rfl⟩
theorem ke.ask {d:Dk} (h:ke d):ke (ey d).1:=by
 obtain ⟨e1,e2,e3⟩:=fE d
 refine ⟨by rw [e1];exact h.nd,by rw [e1,e2,e3];exact h.len,?_,?_,by rw [e3];exact h.r⟩
 ·unfold ey
  have:=h.w
  split
  ·simp
  ·split<;>exact this
 ·unfold ey
  have:=h.f
  split
  ·exact this
  ·split
   ·simp only;omega
   ·exact this
theorem ke.put {d:Dk} (h:ke d) (k:Int) (b:List Int):ke (ir d k b).1:=by
 have ha:=h.ask
 obtain ⟨e1,e2,e3⟩:=fE d
 unfold ir
 split
 ·exact ha
 ·split
  ·exact ha
  ·rename_i hr
   refine ⟨by rw [e1];exact h.nd,fun n=> ?_,ha.w,ha.f,ha.r⟩
   rw [e1,e3]
   simp only
   by_cases hn:n<=d.l.length
   ·rw [List.take_append_of_le_length hn];exact h.len n
   ·rw [List.take_of_length_le (by simp;omega),List.foldl_append]
    show (je (lay (kG d) (k,b)):Int)<=_
    omega
theorem ke.sync {d:Dk} (h:ke d):ke (lZ d).1:=by
 have ha:=h.ask
 obtain ⟨e1,e2,e3⟩:=fE d
 unfold lZ
 split
 ·exact ha
 ·refine ⟨h.now,fun n=> ?_,ha.w,ha.f,ha.r⟩
  simp only [List.take_nil,List.foldl_nil]
  rw [e3];exact h.Gt
end Go.bQ
namespace Go.bQ
open Go Go.Vc Go.aB
open Classical in
noncomputable def xD {α : Type} (f : α → Int) (l : List α) (x : α) : List α := if ∃ y ∈ l, f y = f x then l.map (fun y => if f y = f x then x else y) else l ++ [x]
theorem wi {α:Type} (f:α->Int) (x:α):∀{l:List α},(l.map f).Nodup->(xD f l x).Perm (x::l.filter fun y=>decide (f y≠f x))
 | [],_=>by unfold xD;rw [if_neg (by simp)];exact .refl _
 |y::t,h=>by
  have hn:=List.nodup_cons.1 h
  have ih:=wi f x hn.2
  by_cases e:f y=f x
  ·have hno:∀z ∈ t,f z≠f x:=fun z hz q=>hn.1 (List.mem_map.2 ⟨z,hz,q.trans e.symm⟩)
   unfold xD
   rw [if_pos ⟨y,.head _,e⟩,List.map_cons,if_pos e,List.filter_cons,if_neg (by simp [e])]
   rw [List.filter_eq_self.2 (fun z hz=>by simpa using hno z hz)]
   have:t.map (fun y=>if f y=f x then x else y)=t:=by
    conv=>rhs;rw [<-List.map_id t]
    exact List.map_congr_left fun z hz=>by rw [if_neg (hno z hz)];rfl
   rw [this]
  ·rw [List.filter_cons,if_pos (by simp [e])]
   refine List.Perm.trans ?_ (List.Perm.swap _ _ _)
   refine List.Perm.trans ?_ (List.Perm.cons y ih)
   unfold xD
   by_cases q:∃z ∈ t,f z=f x
   ·obtain ⟨z,hz,qz⟩:=q
    rw [if_pos ⟨z,.tail _ hz,qz⟩,if_pos ⟨z,hz,qz⟩,List.map_cons,if_neg e]
   ·rw [if_neg (by
     rintro ⟨z,hz,qz⟩
     rcases List.mem_cons.1 hz with rfl|hz
     ·exact e qz
     ·exact q ⟨z,hz,qz⟩),if_neg q]
    exact .refl _
theorem D7 {α:Type} {f:α->Int} {l:List α} {x y:α} (h:y ∈ xD f l x):y=x\/y ∈ l:=by
 unfold xD at h
 split at h
 ·obtain ⟨z,hz,e⟩:=List.mem_map.1 h
  split at e
  ·exact .inl e.symm
  ·exact .inr (e▸hz)
 ·rcases List.mem_append.1 h with h|h
  ·exact .inr h
  ·exact .inl (by simpa using h)
theorem D8 {α:Type} {f:α->Int} {g:α->List Int} {l:List α} {s:List iH} (x:α) (h:(l.map fun y=>(f y,g y)).Perm s) (hn:(dw s).Nodup):((xD f l x).map fun y=>(f y,g y)).Perm (lay s (f x,g x)):=by
 have hk:(l.map f).Nodup:=by
  have:=(h.map fun y:iH=>y.1).nodup_iff.2 hn
  rwa [List.map_map]at this
 refine ((wi f x hk).map _).trans ?_
 refine List.Perm.trans ?_ (mC s (f x,g x)).symm
 rw [List.map_cons]
 refine List.Perm.cons _ ?_
 have:=h.filter fun y=>decide (y.1≠f x)
 rw [List.filter_map]at this
 exact this
abbrev Rc:=Int × Int × List Int
def cE (best:Rc) (slot:Int) (r:Int × List Int × Int):Rc:=if r.2.2=0/\r.1>best.2.1 then (slot,r.1,r.2.1)else best
def fD (D:Dk) (id:Int):Rc:=cE (cE (2*id+1,0,[]) (2*id) (dS (getD D (2*id)))) (2*id+1) (dS (getD D (2*id+1)))
def qd (id:Int):Bool:=decide (0<=id)&& decide (id<=1099511627776)
def oU (D:Dk) (id:Int):List Int × Int × Bool:=if qd id=true then ((fD D id).2.2,(fD D id).2.1,decide ((fD D id).2.1>0))else ([],0,false)
def vK (D : Dk) (id : Int) (body : List Int) : Dk × Int :=
 if qd id = true then
  if (tB ((fD D id).2.1 + 1) body).2 ≠ 0 then (D, (tB ((fD D id).2.1 + 1) body).2)
  else if (ir D (4 * id + 1 - (fD D id).1) (tB ((fD D id).2.1 + 1) body).1).2 ≠ 0 then ir D (4 * id + 1 - (fD D id).1) (tB ((fD D id).2.1 + 1) body).1
  else lZ (ir D (4 * id + 1 - (fD D id).1) (tB ((fD D id).2.1 + 1) body).1).1
 else (D, 1)
theorem Gc (n:Nat):(2*n)^^^ 1=2*n+1/\(2*n+1)^^^ 1=2*n:=by
 have h1:=Nat.xor_div_two (a:=2*n) (b:=1)
 have par:∀a:Nat,(a ^^^ 1)% 2=1 ↔ ¬a % 2=1:=fun a=>by
  have:=Nat.testBit_xor a 1 0
  rw [Nat.testBit_zero,Nat.testBit_zero,Nat.testBit_zero]at this
  simp only [Nat.reduceMod,decide_true,Bool.xor_true]at this
  rw [<-decide_eq_true_iff (p:=(a ^^^ 1)% 2=1),this]
  simp
 have h2:=par (2*n)
 have h3:=Nat.xor_div_two (a:=2*n+1) (b:=1)
 have h4:=par (2*n+1)
 rw [show 1 / 2=0 from rfl,Nat.xor_zero]at h1 h3
 omega
theorem D9 {id : Int} (h : 0 ≤ id ∧ id ≤ 1099511627776) : dt .i64 (2 * id) 1 = 2 * id + 1 ∧ dt .i64 (2 * id + 1) 1 = 2 * id := by
 have key : ∀ n : Nat, n ≤ 2 ^ 60 → dt .i64 (n : Int) 1 = ((n ^^^ 1 : Nat) : Int) := fun n hn => by
  show IntKind.wrap .i64 ((BitVec.ofInt 64 (n : Int) ^^^ BitVec.ofInt 64 1).toNat : Nat) = _
  have e1 : (BitVec.ofInt 64 (n : Int)).toNat = n := by
   rw [BitVec.toNat_ofInt]
   simp only [show ((2 ^ 64 : Nat) : Int) = 18446744073709551616 from rfl]
   omega
  rw [BitVec.toNat_xor, e1]
  show IntKind.wrap .i64 ((n ^^^ 1 : Nat) : Int) = _
  have : n ^^^ 1 < 2 ^ 61 := Nat.xor_lt_two_pow (by omega) (by decide)
  exact wI
 obtain ⟨x1, x2⟩ := Gc id.toNat
 constructor
 ·have := key (2 * id.toNat) (by omega)
  rw [x1] at this
  rw [show 2 * id = ((2 * id.toNat : Nat) : Int) by omega, this]; omega
 ·have := key (2 * id.toNat + 1) (by omega)
  rw [x2] at this
  rw [show 2 * id + 1 = ((2 * id.toNat + 1 : Nat) : Int) by omega, this]; omega
theorem tZ {best:Rc} {slot:Int} {r:Int × List Int × Int}:(cE best slot r).1=best.1\/(cE best slot r).1=slot:=by
 unfold cE
 split
 ·exact .inr rfl
 ·exact .inl rfl
theorem Ea (D:Dk) (id:Int):(fD D id).1=2*id\/(fD D id).1=2*id+1:=by
 unfold fD
 rcases tZ (best:=cE (2*id+1,0,[]) (2*id) (dS (getD D (2*id)))) (slot:=2*id+1) (r:=dS (getD D (2*id+1)))with h|h
 ·rw [h]
  rcases tZ (best:=(2*id+1,0,[])) (slot:=2*id) (r:=dS (getD D (2*id)))with h|h
  ·exact .inr h
  ·exact .inl h
 ·exact .inr h
theorem HD (b:List Int):0<=(dS b).1/\(dS b).1<=1073741824:=by
 by_cases h:(dS b).2.2=0
 ·have:=Eb h;omega
 ·rw [(IF h).1];omega
theorem BI {best:Rc} {slot:Int} (b:List Int) (h:0<=best.2.1/\best.2.1<=1073741824):0<=(cE best slot (dS b)).2.1/\(cE best slot (dS b)).2.1<=1073741824:=by
 unfold cE
 split
 ·exact HD b
 ·exact h
theorem IG (D:Dk) (id:Int):0<=(fD D id).2.1/\(fD D id).2.1<=1073741824:=BI _ (BI _ (show (0:Int)<=0/\(0:Int)<=1073741824 by decide))
theorem Ec (D:Dk):(ey D).1.l=D.l:=(fE D).2.1
theorem Ed (D:Dk) (k:Int) (b:List Int):(ir D k b).1.l.length<=D.l.length+1:=by
 unfold ir
 split
 ·rw [Ec];omega
 ·split
  ·rw [Ec];omega
  ·simp
theorem HE (D:Dk):(lZ D).1.l.length<=D.l.length:=by
 unfold lZ
 split
 ·rw [Ec];omega
 ·simp
theorem HF (D : Dk) (id : Int) (b : List Int) : (vK D id b).1.l.length ≤ D.l.length + 1 := by
 unfold vK
 split
 ·split
  ·exact Nat.le_succ _
  ·split
   ·exact Ed _ _ _
   ·exact Nat.le_trans (HE _) (Ed _ _ _)
 ·exact Nat.le_succ _
end Go.bQ
namespace Go.bQ
open Go Go.Vc Go.aB
theorem Gs {room id : Int} : oU ⟨room, 0, 0, [], []⟩ id = ([], 0, false) := by
 unfold oU
 split <;> rfl
end Go.bQ
namespace Go.kW
open Go Go.Vc
abbrev Cl:=Int × Int × Int
abbrev It:=Int × Cl
def cv (c:Cl):Value:=.agg #[c.1,c.2.1,c.2.2]
def tv (t:Int):Value:=.int .i64 t
abbrev dp (c:Cl):List Value:=[.int .i64 c.1,.int .i64 c.2.1,.int .i64 c.2.2]
abbrev dJ (x:It):List Value:=[.int .i64 x.1,.int .i64 x.2.1,.int .i64 x.2.2.1,.int .i64 x.2.2.2]
theorem uW {a b:Cl} (h:cv a=cv b):a=b:=by
 unfold cv at h
 obtain ⟨a1,a2,a3⟩:=a
 obtain ⟨b1,b2,b3⟩:=b
 simp at h
 obtain ⟨rfl,rfl,rfl⟩:=h
 rfl
structure QS where
 room:Int
 lost:Int
 l:List It
def cF (l:List It) (c:Cl):List It:=l.filter fun x=>x.2 !=c
def pO (l:List It) (x:It):List It:=l.takeWhile (fun y=>y.1<=x.1)++x::l.dropWhile (fun y=>y.1<=x.1)
def gG (l:List It) (c:Cl):Option Int:=(l.find? fun x=>x.2==c).map (·.1)
def cX (q:QS) (c:Cl) (t:Int):QS × Bool:=
 match gG q.l c with
 |some was=>if was<=t then (q,false)else ({q with l:=pO (cF q.l c) (t,c)},true)
 |none=>if (q.l.length:Int)>=q.room then ({q with lost:=q.lost+1},false)else ({q with l:=pO q.l (t,c)},true)
def db (l:List It) (now many:Int):Nat:=min (l.takeWhile fun y=>y.1<=now).length many.toNat
def mv (q:QS) (now many:Int):QS × List Cl:=({q with l:=q.l.drop (db q.l now many)},(q.l.take (db q.l now many)).map (·.2))
structure sQ (q:QS):Prop where
 room:1<=q.room/\q.room<=4096
 len:(q.l.length:Int)<=q.room
 sorted:q.l.Pairwise fun a b=>a.1<=b.1
 nodup:(q.l.map (·.2)).Nodup
theorem kF (l:List It) (c:Cl):(cF l c).Sublist l:=List.filter_sublist
theorem lF {l:List It} {c:Cl} {t:Int} (h:gG l c=some t):(t,c)∈ l:=by
 unfold gG at h
 cases hf:l.find? (fun x=>x.2==c)with
 |none=>rw [hf]at h;cases h
 |some x=>
  rw [hf]at h
  have h1:=List.find?_some hf
  have h2:=List.mem_of_find?_eq_some hf
  obtain ⟨a,b⟩:=x
  simp at h h1
  subst h;subst h1;exact h2
theorem ji {l:List It} {c:Cl} (h:gG l c=none):∀x ∈ l,x.2≠c:=by
 unfold gG at h
 rw [Option.map_eq_none_iff,List.find?_eq_none]at h
 intro x hx e
 exact h x hx (by simp [e])
theorem wG {l : List It} (hn : (l.map (·.2)).Nodup) {c : Cl} {t : Int} (h : (t, c) ∈ l) : gG l c = some t := by
 cases hq : gG l c with
 | none => exact absurd rfl (ji hq _ h)
 | some u =>
   have := ou hn (lF hq) h rfl
   cases this; rfl
theorem kI {l:List It} (h:l.Pairwise fun a b=>a.1<=b.1) (t:Int):(∀y ∈ l.takeWhile (fun y=>y.1<=t),y.1<=t)/\(∀y ∈ l.dropWhile (fun y=>y.1<=t),t<y.1):=by
 induction l with
 |nil=>simp
 |cons a l ih=>
  rw [List.pairwise_cons]at h
  by_cases ha:a.1<=t
  ·rw [List.takeWhile_cons_of_pos (by simpa using ha),List.dropWhile_cons_of_pos (by simpa using ha)]
   obtain ⟨i1,i2⟩:=ih h.2
   refine ⟨fun y hy=> ?_,i2⟩
   rcases List.mem_cons.1 hy with rfl|hy
   ·exact ha
   ·exact i1 y hy
  ·rw [List.takeWhile_cons_of_neg (by simpa using ha),List.dropWhile_cons_of_neg (by simpa using ha)]
   refine ⟨by simp,fun y hy=> ?_⟩
   rcases List.mem_cons.1 hy with rfl|hy
   ·omega
   ·have:=h.1 y hy;omega
theorem qE {l:List It} (h:l.Pairwise fun a b=>a.1<=b.1) (t:Int) {i:Nat} {y:It} (hi:l[i]? =some y):i<(l.takeWhile (fun y=>y.1<=t)).length ↔ y.1<=t:=by
 have hs:=kI h t
 have e:=List.takeWhile_append_dropWhile (p:=fun y:It=>decide (y.1<=t)) (l:=l)
 constructor
 ·intro hlt
  rw [<-e,List.getElem?_append_left hlt]at hi
  exact hs.1 y (List.mem_of_getElem? hi)
 ·intro hle
  rcases Nat.lt_or_ge i (l.takeWhile (fun y=>y.1<=t)).length with hlt|hge
  ·exact hlt
  ·rw [<-e,List.getElem?_append_right hge]at hi
   have:=hs.2 y (List.mem_of_getElem? hi)
   omega
theorem Gx (l:List It) (x:It):l.take (l.takeWhile fun y=>decide (y.1<=x.1)).length++x::l.drop (l.takeWhile fun y=>decide (y.1<=x.1)).length=pO l x:=by
 have h:∀(a b l:List It),a++b=l->l.take a.length++x::l.drop a.length=a++x::b:=by rintro a b _ rfl;simp
 exact h _ _ _ (List.takeWhile_append_dropWhile (p:=fun y:It=>decide (y.1<=x.1)) (l:=l))
theorem qu (l:List It) (x:It):(pO l x).length=l.length+1:=by
 have e:=congrArg List.length (List.takeWhile_append_dropWhile (p:=fun y:It=>decide (y.1<=x.1)) (l:=l))
 unfold pO
 simp only [List.length_append,List.length_cons]at e ⊢
 omega
theorem fo (l:List It) (x y:It):y ∈ pO l x ↔ y=x\/y ∈ l:=by
 unfold pO
 conv=>rhs;rw [<-List.takeWhile_append_dropWhile (p:=fun y:It=>decide (y.1<=x.1)) (l:=l)]
 simp only [List.mem_append,List.mem_cons]
 constructor
 ·rintro (h|h|h)
  ·exact .inr (.inl h)
  ·exact .inl h
  ·exact .inr (.inr h)
 ·rintro (h|h|h)
  ·exact .inr (.inl h)
  ·exact .inl h
  ·exact .inr (.inr h)
theorem sX {l:List It} (h:l.Pairwise fun a b=>a.1<=b.1) (x:It):(pO l x).Pairwise fun a b=>a.1<=b.1:=by
 have hs:=kI h x.1
 have e:=List.takeWhile_append_dropWhile (p:=fun y:It=>decide (y.1<=x.1)) (l:=l)
 unfold pO
 rw [<-e,List.pairwise_append]at h
 rw [List.pairwise_append]
 refine ⟨h.1,List.pairwise_cons.2 ⟨fun y hy=>by have:=hs.2 y hy;omega,h.2.1⟩,fun a ha b hb=> ?_⟩
 rcases List.mem_cons.1 hb with rfl|hb
 ·exact hs.1 a ha
 ·exact h.2.2 a ha b hb
theorem uX {l : List It} (h : (l.map (·.2)).Nodup) {x : It} (hx : ∀ y ∈ l, y.2 ≠ x.2) : ((pO l x).map (·.2)).Nodup := by
 have e := List.takeWhile_append_dropWhile (p := fun y : It => decide (y.1 ≤ x.1)) (l := l)
 unfold pO
 have hx' : ∀ y ∈ l.takeWhile (fun y => y.1 ≤ x.1) ++ l.dropWhile (fun y => y.1 ≤ x.1), y.2 ≠ x.2 := by rw [e]; exact hx
 rw [← e, List.map_append, List.nodup_append] at h
 rw [List.map_append, List.map_cons, List.nodup_append]
 refine ⟨h.1, List.nodup_cons.2 ⟨fun hm => ?_, h.2.1⟩, fun a ha b hb => ?_⟩
 ·obtain ⟨y, hy, e⟩ := List.mem_map.1 hm
  exact hx' y (List.mem_append_right _ hy) e
 ·rcases List.mem_cons.1 hb with rfl | hb
  ·obtain ⟨y, hy, rfl⟩ := List.mem_map.1 ha
   exact hx' y (List.mem_append_left _ hy)
  ·exact h.2.2 a ha b hb
theorem sQ.add {q : QS} (h : sQ q) (c : Cl) (t : Int) : sQ (cX q c t).1 := by
 unfold cX
 split
 ·rename_i was hw
  split
  ·exact h
  ·have hsub := kF q.l c
   have hlt : (cF q.l c).length < q.l.length := by
    have hm := lF hw
    have : (cF q.l c).length ≠ q.l.length := fun e => by
     have := hsub.eq_of_length e
     rw [← this] at hm
     unfold cF at hm
     simp at hm
    have := hsub.length_le
    omega
   have := h.len
   exact ⟨h.room, by rw [qu]; show ((_ : Nat) : Int) ≤ q.room; omega, sX (h.sorted.sublist hsub) _, uX ((hsub.map _).nodup h.nodup) (fun y hy => by
    unfold cF at hy
    simp at hy
    exact hy.2)⟩
 ·rename_i hn
  split
  ·exact ⟨h.room, h.len, h.sorted, h.nodup⟩
  ·exact ⟨h.room, by rw [qu]; show ((_ : Nat) : Int) ≤ q.room; omega, sX h.sorted _, uX h.nodup (ji hn)⟩
theorem sQ.drop {q:QS} (h:sQ q) (c:Cl):sQ {q with l:=cF q.l c}:=by
 have hsub:=kF q.l c
 have:=hsub.length_le
 have:=h.len
 exact ⟨h.room,by show ((cF q.l c).length:Int)<=q.room;omega,h.sorted.sublist hsub,(hsub.map _).nodup h.nodup⟩
theorem sQ.due {q:QS} (h:sQ q) (now many:Int):sQ (mv q now many).1:=by
 have hsub:(q.l.drop (db q.l now many)).Sublist q.l:=List.drop_sublist _ _
 have:=hsub.length_le
 have:=h.len
 exact ⟨h.room,by show ((q.l.drop (db q.l now many)).length:Int)<=q.room;omega,h.sorted.sublist hsub,(hsub.map _).nodup h.nodup⟩
theorem wM (q:QS) (c:Cl) (t:Int):q.lost<=(cX q c t).1.lost/\(cX q c t).1.lost<=q.lost+1:=by
 unfold cX
 split
 ·split<;>exact ⟨Int.le_refl _,by show q.lost<=q.lost+1;omega⟩
 ·split
  ·exact ⟨by show q.lost<=q.lost+1;omega,Int.le_refl _⟩
  ·exact ⟨Int.le_refl _,by show q.lost<=q.lost+1;omega⟩
theorem C3 {q:QS} (h:sQ q) (now many:Int) {k:Nat} {x:It} (hx:q.l[k]? =some x):k<db q.l now many ↔(k:Int)<many/\x.1<=now:=by
 have:=qE h.sorted now hx
 unfold db
 rw [<-this]
 omega
theorem C4 (l:List It) (now many:Int):db l now many<=l.length:=by
 have:=(List.takeWhile_sublist (fun y:It=>decide (y.1<=now)) (l:=l)).length_le
 unfold db;omega
end Go.kW
namespace Go.kW
end Go.kW
namespace Go.mw
open Go Go.Vc Go.bQ Go.kW
abbrev Cg:=Ce × Int
def kZ (b:Int):Bool:=decide (8<=b)&& decide (b<16)
def ay (b:Int):Int:=if b=3 then 2 else if kZ b then 5 else 0
def cu (b:Int):Int:=if kZ b then b-8 else -1
def eD (l : Int) : Int := 8 + min (max l 0) 7
def gn (b:Int):Bool:=decide (b=0)||kZ b
def aS (c:Ce):Ce:=(c.1,c.2.1-1,c.2.2)
def ma (c:Ce):Ce:=(c.1,c.2.1+1,c.2.2)
def aW (c:Ce):List Ce:=[(c.1-1,c.2.1,c.2.2),(c.1+1,c.2.1,c.2.2),(c.1,c.2.1,c.2.2-1),(c.1,c.2.1,c.2.2+1)]
def fL (c:Ce):List Ce:=[(c.1-1,c.2.1,c.2.2),(c.1+1,c.2.1,c.2.2),aS c,ma c,(c.1,c.2.1,c.2.2-1),(c.1,c.2.1,c.2.2+1)]
def bW (V:Ce->Int) (c:Ce):List Ce:=(c::fL c).filter fun n=>decide (0<ay (V n))
def cL (V : Ce → Int) (now : Int) (q : QS) (c : Ce) : QS := (bW V c).foldl (fun q n => (cX q n (now + ay (V n))).1) q
def xK (V : Ce → Int) (l : List Ce) : Int := l.foldl (fun m n => if 0 ≤ cu (V n) then min m (cu (V n)) else m) 7
def cN (V:Ce->Int) (c:Ce):Int × Bool:=if kZ (V (ma c))then (1,true)else if xK V (aW c)=7 then (0,false)else (xK V (aW c)+1,true)
def qw (V:Ce->Int) (c:Ce):List Cg:=if gn (V (aS c))then [(c,V (aS c)),(aS c,3)]else []
def fJ (V:Ce->Int) (c:Ce) (level:Int):List Cg:=
 if 0<level/\(cN V c).2=false then [(c,0)]
 else if 0<level/\(cN V c).1≠level then [(c,eD (cN V c).1)]
 else if V (aS c)=0 then [(aS c,eD 1)]
 else if kZ (V (aS c))=true\/7<=level then []
 else ((aW c).filter fun n=>decide (V n=0)).map fun n=>(n,eD (level+1))
def de (V:Ce->Int) (c:Ce):List Cg:=if V c=3 then qw V c else if kZ (V c)then fJ V c (cu (V c))else []
theorem yZ {V:Ce->Int} {c:Ce} (h0:ay (V c)=0) (h:∀n ∈ fL c,ay (V n)=0):bW V c=[]:=by
 unfold bW
 rw [List.filter_eq_nil_iff]
 intro n hn
 rcases List.mem_cons.1 hn with rfl|hn
 ·rw [h0];decide
 ·rw [h n hn];decide
theorem AO {V:Ce->Int} {c:Ce} (h0:0<ay (V c)) (h:∀n ∈ fL c,ay (V n)=0):bW V c=[c]:=by
 unfold bW
 rw [List.filter_cons,if_pos (by simpa using h0),List.filter_eq_nil_iff.2 fun n hn=>by rw [h n hn];decide]
theorem kC:ay 0=0:=by decide
theorem pk:ay 3=2:=by decide
theorem Es {V:Ce->Int} {c:Ce} (h:V c=3) (hl:V (aS c)=0):de V c=[(c,0),(aS c,3)]:=by
 unfold de qw gn
 rw [if_pos h,hl,if_pos (by decide)]
end Go.mw
