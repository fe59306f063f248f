import Derived.Test.YtjcnjlaelhdjeaaGreatDoorA
import Derived.WalkKit
import Derived.Laws.BytesArg
import Derived.Great.BuildSlice
import Derived.Deep.AppendSrc
import Derived.Deep.LoopGhost
import Derived.RangeFuncNested
import Derived.RangeFuncLeaves
import Derived.OrdersIn
set_option linter.all false
namespace Go.Vc
open Go Go.RowKit
inductive S where
 | bool | int (k : IntKind) | str | ptr | slice | map | raw
inductive T1 where
 | sc (s : S) | agg (l : List S)
inductive T2 where
 | one (t : T1) | tup (l : List T1)
structure Sl where
 a : Option Addr
 n : Nat
 c : Nat
instance : Coe Int Value := ⟨fun n => .int .i64 n⟩
instance : Coe Sl Value := ⟨fun s => .slice s.a s.n s.c⟩
instance : Coe World Nat := ⟨fun w => w.heap.size⟩
abbrev Kp (i : Nat) (a b : World) : Prop := b.heap[i]? = a.heap[i]?
abbrev EqL (l : List Value) : Prop := l = l
instance : Coe Bool Value := ⟨.bool⟩
instance : Coe (Option Addr) Value := ⟨.pointer⟩
instance : Coe Value Ending := ⟨.returned⟩
inductive WQ | a | b
inductive TQ | a
abbrev tqq : TQ := .a
instance : Coe TQ Value := ⟨fun _ => .tuple #[]⟩
abbrev LV := List Value
instance : Coe World (Option Addr) := ⟨fun w => some ⟨w.heap.size, 0, none⟩⟩
instance : Coe Nat (Option Addr) := ⟨fun w => some ⟨w, 0, none⟩⟩
inductive WQ8 | a
abbrev w8q : WQ8 := .a
instance : CoeFun WQ8 (fun _ => Int → Int) := ⟨fun _ => IntKind.wrap .u8⟩
inductive WQ16 | a
abbrev w16q : WQ16 := .a
instance : CoeFun WQ16 (fun _ => Int → Int) := ⟨fun _ => IntKind.wrap .u16⟩
inductive WQ32 | a
abbrev w32q : WQ32 := .a
instance : CoeFun WQ32 (fun _ => Int → Int) := ⟨fun _ => IntKind.wrap .u32⟩
inductive WQ64 | a
abbrev w64q : WQ64 := .a
instance : CoeFun WQ64 (fun _ => Int → Int) := ⟨fun _ => IntKind.wrap .u64⟩
abbrev wqq : WQ := .a
abbrev vzz : WQ := .b
instance : CoeFun WQ (fun _ => Int → Int) := ⟨fun _ => IntKind.wrap .i64⟩
instance : Coe WQ Value := ⟨fun _ => .int .i64 0⟩
abbrev pzq (b : Nat) : Option Addr := some ⟨b, 0, none⟩
abbrev pnq (b o : Nat) : Option Addr := some ⟨b, o, none⟩
class Qdq (b v : Bool) (p : outParam Prop) : Prop where
 f : b = v → p
instance {p : Prop} [Decidable p] : Qdq (decide p) true p := ⟨of_decide_eq_true⟩
instance {p : Prop} [Decidable p] : Qdq (decide p) false (¬ p) := ⟨of_decide_eq_false⟩
instance {a b : Int} : Qdq (a != b) true (a ≠ b) := ⟨fun h => by simpa using h⟩
instance {a b : Int} : Qdq (a != b) false (a = b) := ⟨fun h => by simpa using h⟩
instance {a b : Int} : Qdq (a == b) true (a = b) := ⟨fun h => by simpa using h⟩
instance {a b : Int} : Qdq (a == b) false (a ≠ b) := ⟨fun h => by simpa using h⟩
theorem qdq {b v : Bool} {p : Prop} [q : Qdq b v p] (h : b = v) : p := q.f h
theorem zdr (w : World) : w.drew.heap.size = w.heap.size := rfl
theorem q0T {p : Prop} [Decidable p] (h : decide p = true) : p := of_decide_eq_true h
theorem q0F {p : Prop} [Decidable p] (h : decide p = false) : ¬ p := of_decide_eq_false h
theorem hs0 {v w : World} {g : Nat} {c : Array Value} (e : v = w.setRow g c) : v.heap.size = w.heap.size := by rw [e]; simp
theorem hs1 {v w : World} {o : Obj} (e : v = w.alloc o) : v.heap.size = w.heap.size + 1 := by rw [e]; simp
theorem hs2 {v w u : World} {o : Obj} {g : Nat} {c : Array Value} (e : v = w.alloc o) (f : u = v.setRow g c) : u.heap.size = w.heap.size + 1 := by rw [f, e]; simp
@[reducible] def S.Ty : S → Type
 | .bool => Bool | .int _ => Int | .str => ByteArray | .ptr => Option Addr | .slice => Sl | .map => Option Nat | .raw => Value
def S.mk : (s : S) → s.Ty → Value
 | .bool, b => .bool b | .int k, n => .int k n | .str, s => .string s | .ptr, p => .pointer p | .slice, s => .slice s.a s.n s.c
 | .map, r => .map r | .raw, v => v
def S.get : (s : S) → Value → Option s.Ty
 | .bool, .bool b => some b
 | .int .i64, .int .i64 n => some n | .int .i32, .int .i32 n => some n | .int .i16, .int .i16 n => some n | .int .i8, .int .i8 n => some n
 | .int .u64, .int .u64 n => some n | .int .u32, .int .u32 n => some n | .int .u16, .int .u16 n => some n | .int .u8, .int .u8 n => some n
 | .str, .string s => some s | .ptr, .pointer p => some p | .slice, .slice a n c => some ⟨a, n, c⟩ | .map, .map r => some r
 | .raw, v => some v
 | _, _ => none
theorem S.get_mk {s : S} {v : Value} {x : s.Ty} (h : s.get v = some x) : v = s.mk x := by
 unfold S.get at h
 split at h <;> (try cases h) <;> rfl
def S.ex (s : S) (F : Value → Prop) : Prop := ∃ x : s.Ty, F (s.mk x)
def S.all (s : S) (F : Value → Prop) : Prop := ∀ x : s.Ty, F (s.mk x)
def exL : List S → (List Value → Prop) → Prop
 | [], F => F []
 | s :: r, F => s.ex fun v => exL r fun vs => F (v :: vs)
def allL : List S → (List Value → Prop) → Prop
 | [], F => F []
 | s :: r, F => s.all fun v => allL r fun vs => F (v :: vs)
def T1.ex : T1 → (Value → Prop) → Prop
 | .sc s, F => s.ex F
 | .agg l, F => exL l fun vs => F (.agg vs.toArray)
def ex1 : List T1 → (List Value → Prop) → Prop
 | [], F => F []
 | t :: r, F => t.ex fun v => ex1 r fun vs => F (v :: vs)
def T2.ex : T2 → (Value → Prop) → Prop
 | .one t, F => t.ex F
 | .tup l, F => ex1 l fun vs => F (.tuple vs.toArray)
theorem S.ex_out {s : S} {F : Value → Prop} (h : s.ex F) : ∃ v, F v := ⟨_, h.choose_spec⟩
theorem exL_out : ∀ {l : List S} {F : List Value → Prop}, exL l F → ∃ vs, F vs
 | [], _, h => ⟨[], h⟩
 | _ :: _, _, ⟨_, h⟩ => let ⟨vs, h'⟩ := exL_out h; ⟨_, h'⟩
theorem T1.ex_out {t : T1} {F : Value → Prop} (h : t.ex F) : ∃ v, F v := by
 cases t with
 | sc s => exact S.ex_out h
 | agg l => exact let ⟨_, h'⟩ := exL_out h; ⟨_, h'⟩
theorem ex1_out : ∀ {l : List T1} {F : List Value → Prop}, ex1 l F → ∃ vs, F vs
 | [], _, h => ⟨[], h⟩
 | _ :: _, _, h => let ⟨_, h1⟩ := T1.ex_out h; let ⟨_, h2⟩ := ex1_out h1; ⟨_, h2⟩
theorem T2.ex_out {t : T2} {F : Value → Prop} (h : t.ex F) : ∃ v, F v := by
 cases t with
 | one t => exact T1.ex_out h
 | tup l => exact let ⟨_, h'⟩ := ex1_out h; ⟨_, h'⟩
def scOf (P : Program) (t : TypeId) : S :=
 match P.underlying t with
 | some .bool => .bool | some (.int k) => .int k | some .string => .str | some (.pointer _) => .ptr
 | some (.slice _) => .slice | some (.map _ _) => .map | _ => .raw
def flat (P : Program) : Nat → TypeId → List S
 | 0, _ => []
 | d + 1, t => match P.underlying t with
   | some (.struct fs) => fs.toList.flatMap fun f => flat P d f.type
   | some (.array n e) => (List.replicate n (flat P d e)).flatten
   | _ => [scOf P t]
def isAg (P : Program) (t : TypeId) : Bool :=
 match P.underlying t with
 | some (.struct _) | some (.array _ _) => true
 | _ => false
def t1Of (P : Program) (t : TypeId) : T1 := if isAg P t then .agg (flat P 20 t) else .sc (scOf P t)
def resOf (P : Program) (l : List TypeId) : T2 :=
 match l with
 | [t] => .one (t1Of P t)
 | l => .tup (l.map (t1Of P))
def sizeAt (P : Program) (t : TypeId) : Nat := ((P.info? t).map (·.size)).getD 0
@[reducible] def FnL : List S → Type → Type
 | [], β => β
 | s :: r, β => s.Ty → FnL r β
def appL : (l : List S) → FnL l (World → Prop) → List Value → World → Prop
 | [], f, [], w => f w
 | s :: r, f, v :: vs, w => match s.get v with | some x => appL r (f x) vs w | none => False
 | _, _, _, _ => False
def Br (b : Bool) (A B : Prop) : Prop := match b with | true => A | false => B
theorem Br.mk {b : Bool} {A B : Prop} (h1 : b = true → A) (h2 : b = false → B) : Br b A B := by
 cases b
 ·exact h2 rfl
 ·exact h1 rfl
theorem Br.tt {b : Bool} {A B : Prop} (h : Br b A B) (hb : b = true) : A := by subst hb; exact h
theorem Br.ff {b : Bool} {A B : Prop} (h : Br b A B) (hb : b = false) : B := by subst hb; exact h
def AndL (l : List Prop) (K : Prop) : Prop := l.foldr And K
theorem AndL_iff {l : List Prop} {K : Prop} : AndL l K ↔ (∀ p ∈ l, p) ∧ K := by
 induction l with
 | nil => simp [AndL]
 | cons a l ih =>
   simp only [AndL, List.foldr_cons] at ih ⊢
   rw [ih, ← and_assoc]
   exact and_congr_left fun _ => ⟨fun h q hq => by cases hq with | head => exact h.1 | tail _ hm => exact h.2 q hm, fun h => ⟨h a (.head _), fun q hq => h q (.tail _ hq)⟩⟩
def nnC : Option Addr → List Prop
 | some _ => []
 | none => [False]
def nzC (y : Int) : List Prop := if y = 0 then [False] else []
def InB (a : Option Addr) (i : Int) (n : Nat) : Prop := a.isSome = true ∧ 0 ≤ i ∧ i < (n : Int)
def ngC (y : Int) : List Prop := if y < 0 then [False] else []
theorem oneF : (∀ q ∈ [False], q) ↔ False := ⟨fun h => h _ (.head _), False.elim⟩
theorem nnC_iff {p : Option Addr} : (∀ q ∈ nnC p, q) ↔ p.isSome = true := by
 cases p with
 | none => exact oneF.trans smm
 | some a => simp [nnC]
theorem nzC_iff {y : Int} : (∀ q ∈ nzC y, q) ↔ y ≠ 0 := by
 unfold nzC; split
 ·rename_i h; exact oneF.trans (by simp [h])
 ·rename_i h; simp [h]
theorem ngC_iff {y : Int} : (∀ q ∈ ngC y, q) ↔ 0 ≤ y := by
 unfold ngC; split
 ·rename_i h; exact oneF.trans (by simp; omega)
 ·rename_i h; simp; omega
@[simp] theorem AndL_nil {K : Prop} : AndL [] K ↔ K := by simp [AndL]
@[simp] theorem AndL_nn {p : Option Addr} {K : Prop} : AndL (nnC p) K ↔ p.isSome = true ∧ K := by rw [AndL_iff, nnC_iff]
@[simp] theorem AndL_nz {y : Int} {K : Prop} : AndL (nzC y) K ↔ y ≠ 0 ∧ K := by rw [AndL_iff, nzC_iff]
@[simp] theorem AndL_ng {y : Int} {K : Prop} : AndL (ngC y) K ↔ 0 ≤ y ∧ K := by rw [AndL_iff, ngC_iff]
def padd (p : Option Addr) (n : Nat) : Option Addr := p.map (·.add n)
def ld (w : World) (p : Option Addr) : Option Value := p.bind w.cell?
inductive SV where
 | val (v : Value)
 | loc (k off : Nat)
 | sli (k n : Nat)
structure KB where
 idx : Nat
 cells : List Value
 ty : TypeId
 live : Bool
instance : Inhabited KB := ⟨⟨0, [], 0, false⟩⟩
def SV.inB (n : Nat) : SV → Prop
 | .val _ => True
 | .loc k _ | .sli k _ => k < n
structure St where
 sl : List SV
 w : World
 kn : List KB
 df : List Nat := []
def SV.conc (kn : List KB) : SV → Value
 | .val v => v
 | .loc k off => .pointer (some ⟨(kn.getD k default).idx, off, none⟩)
 | .sli k n => .slice (some ⟨(kn.getD k default).idx, 0, none⟩) n n
def marks (l : List Nat) : List Deferred := l.map fun D => { target := .collected D, args := #[] }
def St.act (s : St) : Act := { tmps := (s.sl.map (SV.conc s.kn)).toArray, defers := marks s.df }
def St.sv (s : St) : Operand → SV
 | .tmp t => s.sl.getD t (.val undef)
 | .const v => .val v
 | .global g => .val (.pointer (some ⟨g, 0, none⟩))
 | .func f => .val (.func (.func f) #[] #[])
def St.ev (s : St) (x : Operand) : Value := (s.sv x).conc s.kn
def St.put (s : St) (d : Option Tmp) (v : SV) : St :=
 match d with
 | some d => { s with sl := s.sl.set d v }
 | none => s
theorem St.eval_act (s : St) (x : Operand) : s.act.eval x = s.ev x := by
 cases x with
 | tmp t =>
   simp only [Act.eval, St.act, St.ev, St.sv, Array.getD_eq_getD_getElem?, List.getElem?_toArray, ali02, ali05]
   cases s.sl[t]? <;> rfl
 | _ => rfl
theorem St.put_act (s : St) (d : Option Tmp) (v : SV) : (s.put d v).act = s.act.put d (v.conc s.kn) := by
 cases d with
 | none => rfl
 | some d => simp [St.put, St.act, Act.put, alj36]
theorem St.eval_eq (s : St) : s.act.eval = s.ev := funext s.eval_act
structure St.Ok (s : St) : Prop where
 blk : ∀ (k : Nat) (kb : KB), s.kn[k]? = some kb → kb.live = true → s.w.heap[kb.idx]? = some (.cells kb.cells.toArray kb.ty (0, 0))
 ne : ∀ (i j : Nat) (x y : KB), s.kn[i]? = some x → s.kn[j]? = some y → x.live = true → y.live = true → x.idx = y.idx → i = j
 locs : ∀ (i : Nat) (v : SV), s.sl[i]? = some v → v.inB s.kn.length
theorem St.Ok.lt {s : St} (h : s.Ok) (k : Nat) (kb : KB) (hk : s.kn[k]? = some kb) (hl : kb.live = true) : kb.idx < s.w.heap.size :=
 (ali22.1 (h.blk k kb hk hl)).1
theorem St.Ok.sv {s : St} (h : s.Ok) (x : Operand) : (s.sv x).inB s.kn.length := by
 cases x with
 | tmp t =>
   simp only [St.sv, ali05]
   cases hv : s.sl[t]? with
   | none => trivial
   | some v => exact h.locs t v hv
 | _ => trivial
def Idx (kn kn' : List KB) : Prop := ∀ (k : Nat) (kb : KB), kn[k]? = some kb → ∃ kb', kn'[k]? = some kb' ∧ kb'.idx = kb.idx ∧ kb'.ty = kb.ty
theorem Idx.refl (kn : List KB) : Idx kn kn := fun _ kb h => ⟨kb, h, rfl, rfl⟩
theorem Idx.trans {a b c : List KB} (h : Idx a b) (h' : Idx b c) : Idx a c := fun k kb hk => by
 obtain ⟨kb', h1, h2, h2'⟩ := h k kb hk
 obtain ⟨kb'', h3, h4, h4'⟩ := h' k kb' h1
 exact ⟨kb'', h3, h4.trans h2, h4'.trans h2'⟩
theorem Idx.length {a b : List KB} (h : Idx a b) : a.length ≤ b.length := by
 rcases alj62 b.length a.length with hlt | hge
 ·obtain ⟨kb', h1, _⟩ := h b.length a[b.length] (ali04 hlt)
  simp at h1
 ·exact hge
theorem Idx.conc {kn kn' : List KB} (h : Idx kn kn') {v : SV} (hv : v.inB kn.length) : v.conc kn' = v.conc kn := by
 cases v with
 | val v => rfl
 | loc k off =>
   obtain ⟨kb', h1, h2, _⟩ := h k kn[k] (ali04 hv)
   simp [SV.conc, ali05, h1, h2, ali04 (show k < kn.length from hv)]
 | sli k n =>
   obtain ⟨kb', h1, h2, _⟩ := h k kn[k] (ali04 hv)
   simp [SV.conc, ali05, h1, h2, ali04 (show k < kn.length from hv)]
theorem SV.inB.mono {n m : Nat} {v : SV} (h : v.inB n) (hm : n ≤ m) : v.inB m := by
 cases v
 ·trivial
 ·exact ali35 h hm
 ·exact ali35 h hm
structure Fr (W : List Nat) (s s' : St) : Prop where
 len : s'.sl.length = s.sl.length
 slot : ∀ i, i ∉ W → (s'.sl.getD i (.val undef)).conc s'.kn = (s.sl.getD i (.val undef)).conc s.kn
 kn : Idx s.kn s'.kn
 df : s.df.length ≤ s'.df.length ∧ (s'.df.length = s.df.length → s'.df = s.df)
theorem Fr.refl (W : List Nat) (s : St) : Fr W s s := ⟨rfl, fun _ _ => rfl, Idx.refl _, ali34 _, fun _ => rfl⟩
theorem Fr.trans {W : List Nat} {a b c : St} (h : Fr W a b) (h' : Fr W b c) : Fr W a c :=
 ⟨h'.len.trans h.len, fun i hi => (h'.slot i hi).trans (h.slot i hi), h.kn.trans h'.kn, ali41 h.df.1 h'.df.1, fun e => by
  have h1 := h.df.1
  have h2 := h'.df.1
  have h3 := h.df.2 omm
  have h4 := h'.df.2 omm
  exact h4.trans h3⟩
theorem Fr.mono {W W' : List Nat} {a b : St} (h : Fr W a b) (hs : ∀ i ∈ W, i ∈ W') : Fr W' a b :=
 ⟨h.len, fun i hi => h.slot i (fun h' => hi (hs i h')), h.kn, h.df⟩
def bAnd (k : IntKind) (x y : Int) : Int := k.wrap ((BitVec.ofInt k.bits x &&& BitVec.ofInt k.bits y).toNat : Nat)
def bOr (k : IntKind) (x y : Int) : Int := k.wrap ((BitVec.ofInt k.bits x ||| BitVec.ofInt k.bits y).toNat : Nat)
def bXor (k : IntKind) (x y : Int) : Int := k.wrap ((BitVec.ofInt k.bits x ^^^ BitVec.ofInt k.bits y).toNat : Nat)
def bAndNot (k : IntKind) (x y : Int) : Int := k.wrap ((BitVec.ofInt k.bits x &&& ~~~ BitVec.ofInt k.bits y).toNat : Nat)
def strEq (x y : ByteArray) : Bool := x.toList == y.toList
def strLt (x y : ByteArray) : Bool := Op.bytesLess x.toList y.toList
def iBin (op : BinOp) (k : IntKind) (x y : Int) : Option (List Prop × Value) :=
 match op with
 | .add => some ([], .int k (k.wrap (x + y)))
 | .sub => some ([], .int k (k.wrap (x - y)))
 | .mul => some ([], .int k (k.wrap (x * y)))
 | .quo => some (nzC y, .int k (k.wrap (x.tdiv y)))
 | .rem => some (nzC y, .int k (x.tmod y))
 | .and => some ([], .int k (bAnd k x y))
 | .or => some ([], .int k (bOr k x y))
 | .xor => some ([], .int k (bXor k x y))
 | .andNot => some ([], .int k (bAndNot k x y))
 | .eql => some ([], .bool (x == y))
 | .neq => some ([], .bool (x != y))
 | .lss => some ([], .bool (decide (x < y)))
 | .leq => some ([], .bool (decide (x ≤ y)))
 | .gtr => some ([], .bool (decide (x > y)))
 | .geq => some ([], .bool (decide (x ≥ y)))
 | _ => none
def sBin (op : BinOp) (x y : ByteArray) : Option (List Prop × Value) :=
 match op with
 | .add => some ([((x.size + y.size : Nat) : Int) ≤ IntKind.i64.max], .string (x ++ y))
 | .eql => some ([], .bool (strEq x y))
 | .neq => some ([], .bool (!strEq x y))
 | .lss => some ([], .bool (strLt x y))
 | .leq => some ([], .bool (strLt x y || strEq x y))
 | .gtr => some ([], .bool (!(strLt x y || strEq x y)))
 | .geq => some ([], .bool (!strLt x y))
 | _ => none
def bBin (op : BinOp) (x y : Bool) : Option (List Prop × Value) :=
 match op with
 | .eql => some ([], .bool (x == y))
 | .neq => some ([], .bool (!(x == y)))
 | _ => none
def shBin (op : BinOp) (k : IntKind) (x y : Int) : Option (List Prop × Value) :=
 match op with
 | .shl => some (ngC y, .int k (k.wrap (x * 2 ^ (min y.toNat k.bits))))
 | .shr => some (ngC y, .int k (x.fdiv (2 ^ (min y.toNat k.bits))))
 | _ => none
def isSh : BinOp → Bool | .shl | .shr => true | _ => false
def isBoolT (P : Program) (t : TypeId) : Bool := match P.underlying t with | some .bool => true | _ => false
def isNilFn : Value → Bool | .nilFunc => true | _ => false
def binV (tb : Bool) (op : BinOp) (x y : Value) : Option (List Prop × Value) :=
 match isNilFn y with
 | true => none
 | false => match isSh op with
 | true => match x, y with
   | .int k a, .int _ b => shBin op k a b
   | _, _ => none
 | false => match x, y with
   | .int k a, .int k' b => if k = k' then iBin op k a b else none
   | .string a, .string b => sBin op a b
   | .bool a, .bool b => match tb with | true => bBin op a b | false => none
   | _, _ => none
def fieldOf (P : Program) (t : TypeId) (f : Nat) : Option Field :=
 match P.underlying t with
 | some (.struct fs) => fs[f]?
 | _ => none
def slBase (a : Option Addr) (l m size : Nat) : Option Addr := if m = l then a else a.map (·.add (l * size))
def isStr (P : Program) (t : TypeId) : Bool := match P.underlying t with | some .string => true | _ => false
def elemSize (P : Program) (t : TypeId) : Option Nat := (P.info? t).map (·.size)
def sliceElem (P : Program) (t : TypeId) : Option (TypeId × Nat) := match P.underlying t with | some (.slice e) => (elemSize P e).map fun n => (e, n) | _ => none
def arrElem (P : Program) (t : TypeId) : Option (Nat × TypeId) := match P.underlying t with | some (.array n e) => some (n, e) | _ => none
def boundOf (v : Option Value) (dflt : Int) : Option Int := match v with | none => some dflt | some (.int _ i) => some i | _ => none
def cutC (lo hi mx : Option Int) (len cap : Nat) : List Prop × Nat × Nat × Nat :=
 match mx with
 | some m => match hi, lo with
   | some h, some l => ([0 ≤ m, m ≤ (cap : Int), 0 ≤ h, h ≤ m, 0 ≤ l, l ≤ h], l.toNat, h.toNat, m.toNat)
   | some h, none => ([0 ≤ m, m ≤ (cap : Int), 0 ≤ h, h ≤ m], 0, h.toNat, m.toNat)
   | none, _ => ([False], 0, 0, 0)
 | none => match hi, lo with
   | some h, some l => ([0 ≤ h, h ≤ (cap : Int), 0 ≤ l, l ≤ h], l.toNat, h.toNat, cap)
   | some h, none => ([0 ≤ h, h ≤ (cap : Int)], 0, h.toNat, cap)
   | none, some l => ([0 ≤ l, l ≤ (len : Int)], l.toNat, len, cap)
   | none, none => ([], 0, len, cap)
def intV : Value → Option Int | .int _ i => some i | _ => none
def intO : Option Value → Option (Option Int)
 | none => some none
 | some (.int _ i) => some (some i)
 | _ => none
def sliceV (P : Program) (t : TypeId) (x : Value) (lo hi mx : Option Value) : Option (List Prop × Value) :=
 match intO lo, intO hi, intO mx with
 | some lo, some hi, some mx =>
   match x with
   | .slice a n c => match sliceElem P t with
     | some (_, z) => match cutC lo hi mx n c with
       | (cs, l, h, m) => some (cs, .slice (slBase a l m z) (h - l) (m - l))
     | none => none
   | .string s => match isStr P t, mx with
     | true, none => match cutC lo hi none s.size s.size with
       | (cs, l, h, _) => some (cs, .string (s.extract l h))
     | _, _ => none
   | .pointer p => match arrElem P t with
     | some (n, e) => match elemSize P e with
       | some z => match cutC lo hi mx n n with
         | (cs, l, h, m) => some (nnC p ++ cs, .slice (slBase p l m z) (h - l) (m - l))
       | none => none
     | none => none
   | _ => none
 | _, _, _ => none
def partsC (P : Program) (t : TypeId) (parts : Array (Nat × Value)) : Option (List Value) :=
 match (Instr.build t parts).run P default with
 | .ok (.agg cs) _ => some cs.toList
 | _ => none
def padC : SV → Nat → Option (List Prop × SV)
 | .loc k off, n => some ([], .loc k (off + n))
 | .val (.pointer p), n => some (nnC p, .val (.pointer (padd p n)))
 | _, _ => none
def minV (x y : Value) : Option Value := match x, y with | .int k a, .int _ b => some (.int k (if b < a then b else a)) | _, _ => none
def maxV (x y : Value) : Option Value := match x, y with | .int k a, .int _ b => some (.int k (if b > a then b else a)) | _, _ => none
def foldV (f : Value → Value → Option Value) : List Value → Value → Option Value
 | [], x => some x
 | y :: r, x => match f x y with | some z => foldV f r z | none => none
def builtinV (P : Program) (b : Builtin) (ats : Array TypeId) (args : List Value) : Option Value :=
 match b, args with
 | .len, [.slice _ n _] => match ats[0]?.bind (sliceElem P) with | some _ => some (.int .i64 n) | none => none
 | .len, [.string s] => match ats[0]?.map (isStr P) with | some true => some (.int .i64 s.size) | _ => none
 | .cap, [.slice _ _ c] => match ats[0]?.bind (sliceElem P) with | some _ => some (.int .i64 c) | none => none
 | .len, [.agg _] => match ats[0]?.bind (arrElem P) with | some (n, _) => some (.int .i64 n) | none => none
 | .min, x :: r => foldV minV r x
 | .max, x :: r => foldV maxV r x
 | _, _ => none
def partL (P : Program) (t : TypeId) (cs : Array Value) (off : Nat) : Option Value :=
 match P.underlying t with
 | none => none
 | some _ => if isAg P t then some (.agg ((cs.toList.drop off).take (sizeAt P t)).toArray) else cs[off]?
def eqFs (P : Program) (g : TypeId → Value → Value → Option Bool) (xs ys : Array Value) : List Field → Option Bool
 | [] => some true
 | [f] => if f.name = "_" then none else match partL P f.type xs f.offset, partL P f.type ys f.offset with
   | some a, some b => g f.type a b
   | _, _ => none
 | f :: h :: r => if f.name = "_" then none else match partL P f.type xs f.offset, partL P f.type ys f.offset with
   | some a, some b => match g f.type a b, eqFs P g xs ys (h :: r) with
     | some p, some q => some (p && q)
     | _, _ => none
   | _, _ => none
def eqV (P : Program) : Nat → TypeId → Value → Value → Option Bool
 | 0, _, _, _ => none
 | d + 1, t, x, y => match P.underlying t, x, y with
   | some (.int _), .int k a, .int k' b => if k = k' then some (a == b) else none
   | some .bool, .bool a, .bool b => some (a == b)
   | some .string, .string a, .string b => some (strEq a b)
   | some (.struct fs), .agg xs, .agg ys => if P.stoodInHeld t then none else eqFs P (eqV P d) xs ys fs.toList
   | _, _, _ => none
def isNilF : Value → Bool
 | .nilFunc => true
 | _ => false
def fnC : Value → List Prop
 | .nilFunc | .func .. => []
 | _ => [False]
def ptrC (a b : Option Addr) : List Prop := match b with | none => [] | some _ => [a = none]
def ptrB (a b : Option Addr) : Bool := match b with | none => a.isNone | some _ => false
def cmpV (P : Program) (t : TypeId) (x y : Value) : Option (List Prop × Bool) :=
 match y with
 | .slice none _ _ => match x, P.underlying t with
   | .slice a _ _, some (.slice _) => some ([], a.isNone)
   | _, _ => none
 | .pointer b => match x, P.underlying t with
   | .pointer a, some (.pointer _) => some (ptrC a b, ptrB a b)
   | _, _ => none
 | .map none => match x, P.underlying t with
   | .map a, some (.map _ _) => some ([], a.isNone)
   | _, _ => none
 | .nilFunc => match P.underlying t with
   | some (.func _ _ _) => some (fnC x, isNilF x)
   | _ => none
 | .agg ys => match x with
   | .agg xs => match P.eqGuardType P.depth t with
     | false => (eqV P 20 t (.agg xs) (.agg ys)).map fun b => ([], b)
     | true => none
   | _ => none
 | _ => none
def eqOp : BinOp → Option Bool | .eql => some true | .neq => some false | _ => none
def cmpOp (P : Program) (op : BinOp) (t : TypeId) (x y : Value) : Option (List Prop × Value) :=
 match eqOp op, cmpV P t x y with
 | some true, some (c, b) => some (c, .bool b)
 | some false, some (c, b) => some (c, .bool (!b))
 | _, _ => none
def pureOp (P : Program) (s : St) (op : Op) : Option (List Prop × SV) :=
 match op with
 | .move x | .assign x => some ([], s.sv x)
 | .pick c a b => match s.sv c with
   | .val (.bool c) => some ([], match c with | true => s.sv a | false => s.sv b)
   | _ => none
 | .extract t i => match s.sv t with
   | .val (.tuple vs) => vs[i]?.map fun v => ([], .val v)
   | _ => none
 | .fieldAddr t x f => match fieldOf P t f with
   | some fd => if sizeAt P fd.type = 0 then none else padC (s.sv x) fd.offset
   | none => none
 | .field t x f => match s.sv x, fieldOf P t f with
   | .val (.agg cs), some fd => if (P.underlying fd.type).isNone then none else if isAg P fd.type then some ([], .val (.agg ((cs.toList.drop fd.offset).take (sizeAt P fd.type)).toArray)) else cs[fd.offset]?.map fun v => ([], .val v)
   | _, _ => none
 | .nilCheck x => match s.sv x with
   | .loc k off => some ([], .loc k off)
   | .val (.pointer p) => some (nnC p, .val (.pointer p))
   | _ => none
 | .indexAddr t x i => match s.ev i with
   | .int _ i => match sliceElem P t, s.ev x with
     | some (_, z), .slice a n _ => some ([InB a i n], .val (.pointer (padd a (i.toNat * z))))
     | none, .pointer p => match arrElem P t with
       | some (n, e) => (elemSize P e).map fun z => (nnC p ++ [0 ≤ i, i < (n : Int)], .val (.pointer (padd p (i.toNat * z))))
       | none => none
     | _, _ => none
   | _ => none
 | .index t x i => match s.ev x, s.ev i with
   | .string b, .int _ i => if isStr P t then some ([0 ≤ i, i < (b.size : Int)], .val (.int .u8 (b.data.toList.getD i.toNat 0).toNat)) else none
   | _, _ => none
 | .binOp op t x y _ => match binV (isBoolT P t) op (s.ev x) (s.ev y) with
   | some (c, v) => some (c, .val v)
   | none => (cmpOp P op t (s.ev x) (s.ev y)).map fun (c, v) => (c, .val v)
 | .unOp .not _ x => match s.ev x with
   | .bool b => some ([], .val (.bool !b))
   | _ => none
 | .unOp .neg _ x => match s.ev x with
   | .int k n => some ([], .val (.int k (k.wrap (0 - n))))
   | _ => none
 | .convert src dst x => match P.underlying src, P.underlying dst, s.ev x with
   | some (.int _), some (.int k), .int _ n => some ([], .val (.int k (k.wrap n)))
   | some .string, some .string, .string b => some ([], .val (.string b))
   | _, _, _ => none
 | .slice t x lo hi mx => (sliceV P t (s.ev x) (lo.map s.ev) (hi.map s.ev) (mx.map s.ev)).map fun (c, v) => (c, .val v)
 | .call { callee := .builtin b, args, argTypes } => (builtinV P b argTypes (args.toList.map s.ev)).map fun v => ([], .val v)
 | _ => none
theorem underlying_run (P : Program) (t : TypeId) (w : World) : (underlying t).run P w = match P.underlying t with | some d => .ok d w | none => .halt (.stuck "no such type") w := by
 simp only [underlying, program, bind, Sem.bind, Sem.run]
 cases P.underlying t <;> rfl
theorem typeInfo_run (P : Program) (t : TypeId) (w : World) : (typeInfo t).run P w = match P.info? t with | some d => .ok d w | none => .halt (.stuck "no such type") w := by
 simp only [typeInfo, program, bind, Sem.bind, Sem.run]
 cases P.info? t <;> rfl
theorem sizeOf_run {P : Program} {t : TypeId} {w : World} (h : (P.info? t).isSome = true) : (sizeOf t).run P w = .ok (sizeAt P t) w := by
 simp only [sizeOf, Sem.run_bind, typeInfo_run, sizeAt]
 cases h' : P.info? t <;> simp_all
theorem info_of_underlying {P : Program} {t : TypeId} {d : TypeDesc} (h : P.underlying t = some d) : (P.info? t).isSome = true := by
 unfold Program.underlying at h
 cases h' : P.info? t <;> simp_all
def Gives (P : Program) (ρ : Operand → Value) (o : Oper) (v : Value) : Prop := ∀ w, (execOp ρ o).run P w = .ok (.value v) w
theorem andAll {a b : List Prop} (h : ∀ p ∈ a ++ b, p) : (∀ p ∈ a, p) ∧ ∀ p ∈ b, p := ⟨fun p hp => h p (ali25.2 (.inl hp)), fun p hp => h p (ali25.2 (.inr hp))⟩
section
variable {P : Program} {ρ : Operand → Value} {o : Oper}
theorem gives_value {v : Value} {s : Sem Value} (he : execOp ρ o = (do pure (.value (← s)))) (h : ∀ w, s.run P w = .ok v w) : Gives P ρ o v := by
 intro w; rw [he, Sem.run_bind, h]; rfl
theorem iBin_run {op : BinOp} {t : TypeId} {k : IntKind} {x y : Int} {cs : List Prop} {v : Value} (hs : isSh op = false) (h : iBin op k x y = some (cs, v)) (hc : ∀ p ∈ cs, p) (w : World) :
  (binOp op t (.int k x) (.int k y)).run P w = .ok v w := by
 cases op <;> simp only [iBin, Option.some.injEq, Prod.mk.injEq, reduceCtorEq] at h <;> (try exact absurd hs dcc) <;> (try (obtain ⟨rfl, rfl⟩ := h))
 all_goals (try simp [binOp, Op.intArith, Op.intBits, Op.intCmp, bAnd, bOr, bXor, bAndNot]; done)
 all_goals
  rw [nzC_iff] at hc
  simp [binOp, Op.intDiv, hc]
theorem sBin_run {op : BinOp} {t : TypeId} {x y : ByteArray} {cs : List Prop} {v : Value} (h : sBin op x y = some (cs, v)) (hc : ∀ p ∈ cs, p) (w : World) :
  (binOp op t (.string x) (.string y)).run P w = .ok v w := by
 cases op <;> simp only [sBin, Option.some.injEq, Prod.mk.injEq, reduceCtorEq] at h <;> (try (obtain ⟨rfl, rfl⟩ := h))
 all_goals (try simp [binOp, Op.stringOp, strEq, strLt]; done)
 have := hc _ (alj46.2 rfl)
 simp only [binOp, Op.stringOp]
 rw [if_neg omm]; rfl
theorem bBin_run {op : BinOp} {t : TypeId} {x y : Bool} {cs : List Prop} {v : Value} (ht : P.underlying t = some .bool) (h : bBin op x y = some (cs, v)) (w : World) :
  (binOp op t (.bool x) (.bool y)).run P w = .ok v w := by
 have e : (Op.equal t (.bool x) (.bool y)).run P w = .ok (x == y) w := by
  unfold Op.equal Op.maxDepth
  rw [show (10000 : Nat) = 9999 + 1 from rfl, Op.equalIn, Sem.run_bind, underlying_run, ht]; rfl
 cases op <;> simp only [bBin, Option.some.injEq, Prod.mk.injEq, reduceCtorEq] at h <;> (try (obtain ⟨rfl, rfl⟩ := h))
 all_goals (show (binOp _ t (.bool x) (.bool y)).run P w = _; unfold binOp; rw [Sem.run_bind, e]; rfl)
theorem shBin_run {op : BinOp} {t : TypeId} {k k' : IntKind} {x y : Int} {cs : List Prop} {v : Value} (h : shBin op k x y = some (cs, v)) (hc : ∀ p ∈ cs, p) (w : World) :
  (binOp op t (.int k x) (.int k' y)).run P w = .ok v w := by
 cases op <;> simp only [shBin, Option.some.injEq, Prod.mk.injEq, reduceCtorEq] at h <;> (try (obtain ⟨rfl, rfl⟩ := h))
 all_goals
  rw [ngC_iff] at hc
  simp only [binOp, Op.shift]
  rw [if_neg omm]; rfl
theorem eqGuard_run (op : BinOp) (t : TypeId) (x y : Operand) (a b : Value) (h1 : a ≠ .nilIface) (h2 : ∀ c, a ≠ .agg c) (w : World) : (eqGuard op t x y a b).run P w = .ok () w := by
 cases op <;> first | rfl | (cases a <;> first | rfl | exact absurd rfl h1 | exact absurd rfl (h2 _))
theorem binV_run {op : BinOp} {t : TypeId} {x y : Value} {cs : List Prop} {v : Value} (h : binV (isBoolT P t) op x y = some (cs, v)) (hc : ∀ p ∈ cs, p) (w : World) :
  (binOp op t x y).run P w = .ok v w := by
 unfold binV at h
 split at h
 ·cases h
 split at h
 ·split at h
  ·exact shBin_run h hc w
  ·exact absurd h smm
 ·rename_i hs
  split at h
  ·split at h
   ·rename_i e; subst e; exact iBin_run hs h hc w
   ·exact absurd h smm
  ·exact sBin_run h hc w
  ·split at h
   ·rename_i ht
    have ht : P.underlying t = some .bool := by
     unfold isBoolT at ht; split at ht
     ·assumption
     ·cases ht
    exact bBin_run ht h w
   ·cases h
  ·exact absurd h smm
theorem binV_left {tb : Bool} {op : BinOp} {x y : Value} {r : List Prop × Value} (h : binV tb op x y = some r) : x ≠ .nilIface ∧ ∀ c, x ≠ .agg c := by
 constructor
 ·rintro rfl; unfold binV at h; split at h
  ·cases h
  ·split at h <;> simp at h
 ·rintro c rfl; unfold binV at h; split at h
  ·cases h
  ·split at h <;> simp at h
end
section
variable {P : Program} {s : St} {o : Oper}
theorem fieldOf_some {t : TypeId} {f : Nat} {fd : Field} (h : fieldOf P t f = some fd) : ∃ fs, P.underlying t = some (.struct fs) ∧ fs[f]? = some fd := by
 unfold fieldOf at h; split at h
 ·rename_i fs hu; exact ⟨fs, hu, h⟩
 ·cases h
theorem sliceElem_some {t e : TypeId} {z : Nat} (h : sliceElem P t = some (e, z)) : P.underlying t = some (.slice e) ∧ ∀ w, (sizeOf e).run P w = .ok z w := by
 unfold sliceElem at h; split at h
 ·rename_i e' hu
  unfold elemSize at h
  cases h' : P.info? e' with
  | none => simp [h'] at h
  | some i =>
    simp [h'] at h
    obtain ⟨rfl, rfl⟩ := h
    exact ⟨hu, fun w => by rw [sizeOf_run (by simp [h'])]; simp [sizeAt, h']⟩
 ·cases h
theorem c2 {a b : Prop} (h : ∀ p ∈ [a, b], p) : a ∧ b := ⟨h a smm, h b smm⟩
theorem c4 {a b c d : Prop} (h : ∀ p ∈ [a, b, c, d], p) : a ∧ b ∧ c ∧ d := ⟨h a smm, h b smm, h c smm, h d smm⟩
theorem c6 {a b c d e f : Prop} (h : ∀ p ∈ [a, b, c, d, e, f], p) : a ∧ b ∧ c ∧ d ∧ e ∧ f := ⟨h a smm, h b smm, h c smm, h d smm, h e smm, h f smm⟩
theorem isStr_true {t : TypeId} (h : isStr P t = true) : P.underlying t = some .string := by
 unfold isStr at h; split at h
 ·assumption
 ·cases h
theorem cut_run {isS : Bool} {lo hi mx : Option Value} {lo' hi' mx' : Option Int} {len cap : Nat} {cs : List Prop} {l h m : Nat} (e1 : intO lo = some lo') (e2 : intO hi = some hi') (e3 : intO mx = some mx')
  (hcut : cutC lo' hi' mx' len cap = (cs, l, h, m)) (hc : ∀ p ∈ cs, p) (w : World) : (Instr.sliceBounds isS len cap lo hi mx).run P w = .ok (l, h, m) w := by
 have key : ∀ (x : Value) (i : Int) (y : Nat) (code : BoundsCode) (w : World), intO (some x) = some (some i) → 0 ≤ i → i ≤ (y : Int) → (Instr.sliceBound x y code).run P w = .ok i.toNat w := by
  intro x i y code w hx h0 h1
  cases x <;> simp [intO] at hx
  subst hx
  simp [Instr.sliceBound, asIntOf, h0, h1]
 have n3 : ∀ {x : Option Value}, intO x = some none → x = none := by
  intro x hx; unfold intO at hx; split at hx <;> simp_all
 have s3 : ∀ {x : Option Value} {i : Int}, intO x = some (some i) → ∃ v, x = some v ∧ intO (some v) = some (some i) := by
  intro x i hx; cases x with
  | none => simp [intO] at hx
  | some v => exact ⟨v, rfl, hx⟩
 unfold Instr.sliceBounds
 cases mx' with
 | none =>
   obtain rfl := n3 e3
   cases hi' with
   | none =>
     obtain rfl := n3 e2
     cases lo' with
     | none => obtain rfl := n3 e1; simp [cutC] at hcut; obtain ⟨rfl, rfl, rfl, rfl⟩ := hcut; rfl
     | some i =>
       obtain ⟨v, rfl, hv⟩ := s3 e1
       simp [cutC] at hcut; obtain ⟨rfl, rfl, rfl, rfl⟩ := hcut
       have hc := c2 hc
       simp [key v i len _ w hv hc.1 hc.2]
   | some j =>
     obtain ⟨u, rfl, hu⟩ := s3 e2
     cases lo' with
     | none =>
       obtain rfl := n3 e1; simp [cutC] at hcut; obtain ⟨rfl, rfl, rfl, rfl⟩ := hcut
       have hc := c2 hc
       simp [key u j cap _ w hu hc.1 hc.2]
     | some i =>
       obtain ⟨v, rfl, hv⟩ := s3 e1
       simp [cutC] at hcut; obtain ⟨rfl, rfl, rfl, rfl⟩ := hcut
       have hc := c4 hc
       simp [key u j cap _ w hu hc.1 hc.2.1, key v i j.toNat _ w hv hc.2.2.1 omm]
 | some q =>
   obtain ⟨x, rfl, hx⟩ := s3 e3
   cases hi' with
   | none => simp [cutC] at hcut; obtain ⟨rfl, _⟩ := hcut; exact (hc _ (alj46.2 rfl)).elim
   | some j =>
     obtain ⟨u, rfl, hu⟩ := s3 e2
     cases lo' with
     | none =>
       obtain rfl := n3 e1; simp [cutC] at hcut; obtain ⟨rfl, rfl, rfl, rfl⟩ := hcut
       have hc := c4 hc
       simp [key x q cap _ w hx hc.1 hc.2.1, key u j q.toNat _ w hu hc.2.2.1 omm]
     | some i =>
       obtain ⟨v, rfl, hv⟩ := s3 e1
       simp [cutC] at hcut; obtain ⟨rfl, rfl, rfl, rfl⟩ := hcut
       have hc := c6 hc
       simp [key x q cap _ w hx hc.1 hc.2.1, key u j q.toNat _ w hu hc.2.2.1 omm, key v i j.toNat _ w hv hc.2.2.2.2.1 omm]
theorem sliceV_run {t : TypeId} {x : Value} {lo hi mx : Option Value} {cs : List Prop} {v : Value} (h : sliceV P t x lo hi mx = some (cs, v)) (hc : ∀ p ∈ cs, p) (w : World) :
  (Instr.sliceAt t x lo hi mx).run P w = .ok v w := by
 unfold sliceV at h
 split at h
 ·rename_i lo' hi' mx' e1 e2 e3
  split at h
  ·rename_i a n c
   split at h
   ·rename_i e z he
    split at h
    rename_i cs' l q m hcut
    simp only [Option.some.injEq, Prod.mk.injEq] at h
    obtain ⟨rfl, rfl⟩ := h
    obtain ⟨hu, hz⟩ := sliceElem_some he
    simp only [Instr.sliceAt, Sem.run_bind, underlying_run, hu, Result.andThen_ok, Instr.slice, cut_run e1 e2 e3 hcut hc, hz]
    rfl
   ·cases h
  ·rename_i b
   split at h
   ·have he : isStr P t = true := by assumption
    split at h
    rename_i cs' l q m hcut
    simp only [Option.some.injEq, Prod.mk.injEq] at h
    obtain ⟨rfl, rfl⟩ := h
    have hu := isStr_true he
    have hmx : mx = none := by
     cases mx with
     | none => rfl
     | some u => cases u <;> simp [intO] at e3
    subst hmx
    simp only [Instr.sliceAt, Sem.run_bind, underlying_run, hu, Result.andThen_ok, Instr.slice]
    have hcut' := cut_run (P := P) (isS := false) e1 e2 (mx := none) (mx' := none) rfl hcut hc w
    simp [hcut']
   ·cases h
  ·rename_i p
   split at h
   ·rename_i n e he
    split at h
    ·rename_i z hz
     split at h
     rename_i cs' l q m hcut
     simp only [Option.some.injEq, Prod.mk.injEq] at h
     obtain ⟨rfl, rfl⟩ := h
     obtain ⟨h1, h2⟩ := andAll hc
     obtain ⟨a, rfl⟩ := ali29.1 (nnC_iff.1 h1)
     have hu : P.underlying t = some (.array n e) := by
      unfold arrElem at he; split at he
      ·rename_i hu; cases he; exact hu
      ·cases he
     have hz' : (sizeOf e).run P w = .ok z w := by
      unfold elemSize at hz
      cases hi' : P.info? e with
      | none => simp [hi'] at hz
      | some i' => simp [hi'] at hz; rw [sizeOf_run (by simp [hi'])]; simp [sizeAt, hi', hz]
     simp only [Instr.sliceAt, Instr.sureAddr, Sem.run_bind, Sem.run_pure, underlying_run, hu, Result.andThen_ok, cut_run (isS := false) e1 e2 e3 hcut h2, hz']
     unfold slBase
     split <;> rfl
    ·cases h
   ·cases h
  ·cases h
 ·cases h
theorem fieldPlace_run {a : Addr} {f : Field} (h : sizeAt P f.type ≠ 0) (w : World) : (fieldPlace a f).run P w = .ok (a.add f.offset) w := by
 have hs : (P.info? f.type).isSome = true := by
  cases h' : P.info? f.type with
  | none => simp [sizeAt, h'] at h
  | some i => rfl
 simp only [fieldPlace, Sem.run_bind, sizeOf_run hs, Result.andThen_ok, if_neg h]
 rfl
theorem padC_run {x : SV} {kn : List KB} {n : Nat} {cs : List Prop} {sv : SV} (h : padC x n = some (cs, sv)) (hc : ∀ p ∈ cs, p) :
  ∃ a : Addr, x.conc kn = .pointer (some a) ∧ sv.conc kn = .pointer (some (a.add n)) := by
 cases x with
 | loc k off =>
   simp only [padC, Option.some.injEq, Prod.mk.injEq] at h
   obtain ⟨rfl, rfl⟩ := h
   refine ⟨_, rfl, ?_⟩
   simp only [SV.conc, Addr.add]
   split
   ·rename_i h0; rw [h0]; rfl
   ·rfl
 | sli k n => cases h
 | val v =>
   cases v <;> simp [padC] at h
   rename_i p
   obtain ⟨rfl, rfl⟩ := h
   rw [nnC_iff] at hc
   cases p with
   | none => cases hc
   | some a => exact ⟨a, rfl, rfl⟩
theorem foldV_run {f : Value → Value → Option Value} {g : Value → Value → Sem Value} (hfg : ∀ x y z, f x y = some z → ∀ w, (g x y).run P w = .ok z w) :
  ∀ (l : List Value) (x z : Value), foldV f l x = some z → ∀ w, (l.foldlM g x).run P w = .ok z w := by
 intro l
 induction l with
 | nil => intro x z h w; simp only [foldV, Option.some.injEq] at h; subst h; rfl
 | cons y r ih =>
   intro x z h w
   simp only [foldV] at h
   split at h
   ·rename_i u hu
    rw [List.foldlM_cons, Sem.run_bind, hfg _ _ _ hu]
    exact ih _ _ h w
   ·cases h
theorem builtinV_run {b : Builtin} {ats : Array TypeId} {ty : TypeId} {cs : Array Bool} {args : Array Value} {v : Value} (h : builtinV P b ats args.toList = some v) (w : World) :
  (builtin b ats ty cs args).run P w = .ok (.value v) w := by
 obtain ⟨l⟩ := args
 simp only at h
 unfold builtinV at h
 split at h
 ·split at h
  ·rename_i hx
   cases h
   cases ha : ats[0]? with
   | none => simp [ha] at hx
   | some t =>
     simp [ha] at hx
     obtain ⟨hu, _⟩ := sliceElem_some hx
     simp [builtin, Builtin.len_, ha, underlying_run, hu, goInt]
  ·cases h
 ·split at h
  ·rename_i hx
   cases h
   cases ha : ats[0]? with
   | none => simp [ha] at hx
   | some t =>
     simp [ha] at hx
     have hu := isStr_true hx
     simp [builtin, Builtin.len_, ha, underlying_run, hu, goInt]
  ·cases h
 ·split at h
  ·rename_i hx
   cases h
   cases ha : ats[0]? with
   | none => simp [ha] at hx
   | some t =>
     simp [ha] at hx
     obtain ⟨hu, _⟩ := sliceElem_some hx
     simp [builtin, Builtin.cap_, ha, underlying_run, hu, goInt]
  ·cases h
 ·split at h
  ·rename_i n e hx
   cases h
   cases ha : ats[0]? with
   | none => simp [ha] at hx
   | some t =>
     simp [ha] at hx
     have hu : P.underlying t = some (.array n e) := by
      unfold arrElem at hx; split at hx
      ·rename_i hu; cases hx; exact hu
      ·cases hx
     simp [builtin, Builtin.len_, ha, underlying_run, hu, goInt]
  ·cases h
 ·have := foldV_run (P := P) (f := minV) (g := Builtin.min2) (by
   intro x y z hz w
   cases x <;> cases y <;> simp [minV] at hz
   subst hz; rfl) _ _ _ h w
  simp only [builtin, Builtin.min_, Sem.run_bind, this]; rfl
 ·have := foldV_run (P := P) (f := maxV) (g := Builtin.max2) (by
   intro x y z hz w
   cases x <;> cases y <;> simp [maxV] at hz
   subst hz; rfl) _ _ _ h w
  simp only [builtin, Builtin.max_, Sem.run_bind, this]; rfl
 ·cases h
theorem some2 {α β : Type} {a c : α} {b d : β} (h : some (a, b) = some (c, d)) : a = c ∧ b = d := by cases h; exact ⟨rfl, rfl⟩
theorem map2 {x : Option (List Prop × Value)} {cs : List Prop} {sv : SV} (h : (x.map fun (c, v) => (c, SV.val v)) = some (cs, sv)) : ∃ v, x = some (cs, v) ∧ sv = .val v := by
 cases x with
 | none => cases h
 | some p => obtain ⟨a, b⟩ := p; cases h; exact ⟨b, rfl, rfl⟩
theorem ev_of {x : Operand} {v : SV} (h : s.sv x = v) : s.ev x = v.conc s.kn := by simp only [St.ev, h]
theorem part_run {t : TypeId} {cs : Array Value} {off : Nat} (w : World) (hn : (P.underlying t).isNone = false) :
  (isAg P t = true → (part t cs off).run P w = .ok (.agg ((cs.toList.drop off).take (sizeAt P t)).toArray) w) ∧ (isAg P t = false → ∀ v, cs[off]? = some v → (part t cs off).run P w = .ok v w) := by
 have hu : ∃ d, P.underlying t = some d := by
  cases hh : P.underlying t with
  | some d => exact ⟨d, rfl⟩
  | none => simp [hh] at hn
 obtain ⟨d, hu⟩ := hu
 have hi := info_of_underlying hu
 constructor
 ·intro h
  have : (isAgg t).run P w = .ok true w := by
   simp only [isAgg, Sem.run_bind, underlying_run, hu, Result.andThen_ok]
   unfold isAg at h; rw [hu] at h
   cases d <;> first | rfl | (simp at h)
  simp only [part, Sem.run_bind, this, Result.andThen_ok, if_true, sizeOf_run hi, Sem.run_pure]
  congr 2
  apply Array.ext'
  simp [List.take_drop, alj55]
 ·intro h v hv
  have : (isAgg t).run P w = .ok false w := by
   simp only [isAgg, Sem.run_bind, underlying_run, hu, Result.andThen_ok]
   unfold isAg at h; rw [hu] at h
   cases d <;> first | rfl | (simp at h)
  simp [part, this, hv]
theorem partL_run {t : TypeId} {cs : Array Value} {off : Nat} {v : Value} (h : partL P t cs off = some v) (w : World) : (part t cs off).run P w = .ok v w := by
 unfold partL at h
 split at h
 ·cases h
 ·rename_i d hu
  have hp := part_run (P := P) (t := t) (cs := cs) (off := off) w (by rw [hu]; rfl)
  split at h
  ·rename_i ha; cases h; exact hp.1 ha
  ·rename_i ha; exact hp.2 (by simpa using ha) v h
theorem eqFs_run {g : TypeId → Value → Value → Option Bool} {d : Nat} (hg : ∀ t x y b, g t x y = some b → ∀ w, (Op.equalIn d t x y).run P w = .ok b w) (xs ys : Array Value) :
  ∀ (fs : List Field) (b : Bool), eqFs P g xs ys fs = some b → ∀ w, (Op.eqFields d xs ys fs).run P w = .ok b w
 | [], b, h, w => by simp only [eqFs, Option.some.injEq] at h; subst h; rfl
 | [f], b, h, w => by
   unfold eqFs at h
   split at h
   ·cases h
   ·rename_i hn
    split at h
    ·rename_i x y hx hy
     simp only [Op.eqFields, if_pos (show f.name ≠ "_" from hn), Sem.run_bind, partL_run hx, partL_run hy, Result.andThen_ok, hg _ _ _ _ h]
     cases b <;> rfl
    ·cases h
 | f :: f' :: r, b, h, w => by
   unfold eqFs at h
   split at h
   ·cases h
   ·rename_i hn
    split at h
    ·rename_i x y hx hy
     split at h
     ·rename_i p q hp hq
      cases h
      rw [Op.eqFields, if_pos (show f.name ≠ "_" from hn)]
      simp only [Sem.run_bind, partL_run hx, partL_run hy, Result.andThen_ok, hg _ _ _ _ hp]
      cases p with
      | false => rfl
      | true => simpa using eqFs_run hg xs ys (f' :: r) q hq w
     ·cases h
    ·cases h
theorem eqV_run : ∀ (d : Nat) (t : TypeId) (x y : Value) (b : Bool), eqV P d t x y = some b → ∀ (n : Nat), d ≤ n → ∀ w, (Op.equalIn n t x y).run P w = .ok b w
 | 0, t, x, y, b, h, n, hn, w => by cases h
 | d + 1, t, x, y, b, h, n, hn, w => by
   obtain ⟨m, rfl⟩ : ∃ m, n = m + 1 := ⟨n - 1, by omega⟩
   unfold eqV at h
   split at h
   ·rename_i k0 k a k' b' hu
    split at h
    ·rename_i e; subst e; cases h; exact run_equalIn_int w m t k k0 a b' hu
    ·cases h
   ·rename_i a b' hu; cases h; exact run_equalIn_bool w m t a b' hu
   ·rename_i a b' hu; cases h; exact run_equalIn_string w m t a b' hu
   ·rename_i fs xs ys hu
    split at h
    ·cases h
    ·rename_i hs
     have hf : P.fieldsOf t = fs := by simp [Program.fieldsOf, hu]
     rw [run_equalIn_struct w m t xs ys (by rw [hf]; exact hu) (by simpa using hs), hf]
     exact eqFs_run (fun t x y b hb w => eqV_run d t x y b hb m omm w) xs ys fs.toList b h w
   ·cases h
theorem equal_nil {t : TypeId} {x y : Value} {b : Bool} {w : World} (h : (Op.equalIn (9999 + 1) t x y).run P w = .ok b w) : (Op.equal t x y).run P w = .ok b w := h
theorem cmpV_run {t : TypeId} {x y : Value} {cs : List Prop} {b : Bool} (h : cmpV P t x y = some (cs, b)) (hc : ∀ p ∈ cs, p) (w : World) :
  (Op.equal t x y).run P w = .ok b w ∧ (∀ op (xo yo : Operand), (eqGuard op t xo yo x y).run P w = .ok () w) ∧ (x ≠ .nilIface) ∧
  (∀ op, (binOp op t x y) = match op with | .eql => (do pure (.bool (← Op.equal t x y))) | .neq => (do pure (.bool (!(← Op.equal t x y)))) | o => binOp o t x y) := by
 have g : ∀ op (xo yo : Operand), x ≠ .nilIface → (∀ c, x ≠ .agg c) → (eqGuard op t xo yo x y).run P w = .ok () w := fun op xo yo h1 h2 => eqGuard_run op t xo yo x y h1 h2 w
 unfold cmpV at h
 split at h
 ·split at h
  ·rename_i a n c e hu
   obtain ⟨rfl, rfl⟩ := some2 h
   refine ⟨equal_nil ?_, fun op xo yo => g op xo yo smm smm, by simp, fun op => by cases op <;> rfl⟩
   rw [Op.equalIn, Sem.run_bind, underlying_run, hu]
   cases a <;> rfl
  ·cases h
 ·rename_i b
  split at h
  ·rename_i a e hu
   obtain ⟨rfl, rfl⟩ := some2 h
   refine ⟨equal_nil ?_, fun op xo yo => g op xo yo smm smm, by simp, fun op => by cases op <;> rfl⟩
   rw [Op.equalIn, Sem.run_bind, underlying_run, hu]
   cases b with
   | none => cases a <;> rfl
   | some y =>
     have ha : a = none := hc _ (alj46.2 rfl)
     subst ha
     rfl
  ·cases h
 ·split at h
  ·rename_i a k e hu
   obtain ⟨rfl, rfl⟩ := some2 h
   refine ⟨equal_nil ?_, fun op xo yo => g op xo yo smm smm, by simp, fun op => by cases op <;> rfl⟩
   rw [Op.equalIn, Sem.run_bind, underlying_run, hu]
   cases a <;> rfl
  ·cases h
 ·split at h
  ·rename_i a1 a2 a3 hu
   obtain ⟨rfl, rfl⟩ := some2 h
   cases x with
   | nilFunc =>
     refine ⟨equal_nil ?_, fun op xo yo => g op xo yo smm smm, by simp, fun op => by cases op <;> rfl⟩
     rw [Op.equalIn, Sem.run_bind, underlying_run, hu]; rfl
   | func fn fs cs =>
     refine ⟨equal_nil ?_, fun op xo yo => g op xo yo smm smm, by simp, fun op => by cases op <;> rfl⟩
     rw [Op.equalIn, Sem.run_bind, underlying_run, hu]; rfl
   | _ => exact (hc False (alj46.2 rfl)).elim
  ·cases h
 ·rename_i ys
  split at h
  ·rename_i xs
   split at h
   ·rename_i hg
    cases he : eqV P 20 t (.agg xs) (.agg ys) with
    | none => rw [he] at h; cases h
    | some b' =>
      rw [he] at h
      obtain ⟨rfl, rfl⟩ := some2 h
      refine ⟨equal_nil (eqV_run 20 t _ _ _ he _ omm w), fun op xo yo => run_eqGuard_agg w op t xo yo _ _ hg, by simp, fun op => by cases op <;> rfl⟩
   ·cases h
  ·cases h
 ·cases h
theorem cmpOp_run {op : BinOp} {t : TypeId} {x y : Value} {cs : List Prop} {v : Value} (h : cmpOp P op t x y = some (cs, v)) (hc : ∀ p ∈ cs, p) (w : World) (xo yo : Operand) :
  (eqGuard op t xo yo x y).run P w = .ok () w ∧ (binOp op t x y).run P w = .ok v w := by
 unfold cmpOp at h
 split at h
 ·rename_i c b ho hcv
  obtain ⟨rfl, rfl⟩ := some2 h
  obtain ⟨h1, h2, _, h4⟩ := cmpV_run hcv hc w
  refine ⟨h2 op xo yo, ?_⟩
  cases op <;> simp [eqOp] at ho
  rw [h4, Sem.run_bind, h1]; rfl
 ·rename_i c b ho hcv
  obtain ⟨rfl, rfl⟩ := some2 h
  obtain ⟨h1, h2, _, h4⟩ := cmpV_run hcv hc w
  refine ⟨h2 op xo yo, ?_⟩
  cases op <;> simp [eqOp] at ho
  rw [h4, Sem.run_bind, h1]; rfl
 ·cases h
theorem pureOp_gives {cs : List Prop} {sv : SV} (h : pureOp P s o.op = some (cs, sv)) (hc : ∀ p ∈ cs, p) : Gives P s.ev o (sv.conc s.kn) := by
 obtain ⟨dst, op, ty, pos, after, guard⟩ := o
 simp only at h
 cases op with
 | move x => obtain ⟨rfl, rfl⟩ := some2 h; exact fun w => rfl
 | assign x => obtain ⟨rfl, rfl⟩ := some2 h; exact fun w => rfl
 | pick c a b =>
   simp only [pureOp] at h
   split at h
   ·rename_i t hx
    obtain ⟨rfl, rfl⟩ := some2 h
    intro w
    simp only [execOp, ev_of hx]
    cases t <;> rfl
   ·cases h
 | extract t i =>
   simp only [pureOp] at h
   split at h
   ·rename_i vs hx
    cases hv : vs[i]? with
    | none => simp [hv] at h
    | some v =>
      simp [hv] at h; obtain ⟨rfl, rfl⟩ := h
      intro w
      simp [execOp, ev_of hx, Instr.extract, hv, SV.conc]
   ·cases h
 | fieldAddr t x f =>
   simp only [pureOp] at h
   split at h
   ·rename_i fd hf
    split at h
    ·cases h
    ·rename_i hz
     obtain ⟨a, e1, e2⟩ := padC_run (kn := s.kn) h hc
     obtain ⟨fs, hu, hfs⟩ := fieldOf_some hf
     refine gives_value rfl fun w => ?_
     simp only [Instr.fieldAt, Sem.run_bind, underlying_run, hu, Result.andThen_ok, hfs, St.ev, e1, Instr.sureAddr, Sem.run_pure, fieldPlace_run hz, e2]
   ·cases h
 | field t x f =>
   simp only [pureOp] at h
   split at h
   ·rename_i cs' fd hx hf
    obtain ⟨fs, hu, hfs⟩ := fieldOf_some hf
    refine gives_value rfl fun w => ?_
    simp only [Instr.field, Sem.run_bind, underlying_run, hu, Result.andThen_ok, hfs, ev_of hx, SV.conc, asAgg, Sem.run_pure]
    split at h
    ·cases h
    rename_i hn
    have hp := part_run (P := P) (t := fd.type) (cs := cs') (off := fd.offset) w (by cases hq : P.underlying fd.type <;> simp_all)
    split at h
    ·rename_i ha
     obtain ⟨rfl, rfl⟩ := some2 h
     exact hp.1 ha
    ·rename_i ha
     cases hv : cs'[fd.offset]? with
     | none => simp [hv] at h
     | some v =>
       simp [hv] at h; obtain ⟨rfl, rfl⟩ := h
       exact hp.2 (by simpa using ha) v hv
   ·cases h
 | nilCheck x =>
   simp only [pureOp] at h
   split at h
   ·rename_i k off hx
    obtain ⟨rfl, rfl⟩ := some2 h
    intro w; simp only [execOp, ev_of hx, SV.conc]; rfl
   ·rename_i p hx
    obtain ⟨rfl, rfl⟩ := some2 h
    rw [nnC_iff] at hc
    intro w
    cases p with
    | none => cases hc
    | some a => simp only [execOp, ev_of hx, SV.conc]; rfl
   ·cases h
 | indexAddr t x i =>
   simp only [pureOp] at h
   split at h
   ·rename_i k iv hi
    split at h
    ·rename_i e z a n c he hx
     obtain ⟨rfl, rfl⟩ := some2 h
     obtain ⟨hu, hz⟩ := sliceElem_some he
     obtain ⟨h1, h3, h4⟩ := hc _ (alj46.2 rfl)
     refine gives_value rfl fun w => ?_
     cases a with
     | none => cases h1
     | some a => simp [Instr.indexAt, underlying_run, hu, hx, SV.conc, hi, asIntOf, h3, h4, hz, padd]
    ·rename_i p he hx
     split at h
     ·rename_i n e ha
      have hu : P.underlying t = some (.array n e) := by
       unfold arrElem at ha; split at ha
       ·rename_i hu; cases ha; exact hu
       ·cases ha
      cases hz : elemSize P e with
      | none => simp [hz] at h
      | some z =>
        rw [hz] at h
        obtain ⟨rfl, rfl⟩ := some2 h
        obtain ⟨h1, h2⟩ := andAll hc
        rw [nnC_iff] at h1
        obtain ⟨h3, h4⟩ := c2 h2
        have hz' : ∀ w, (sizeOf e).run P w = .ok z w := fun w => by
         unfold elemSize at hz
         cases hi' : P.info? e with
         | none => simp [hi'] at hz
         | some i' => simp [hi'] at hz; rw [sizeOf_run (by simp [hi'])]; simp [sizeAt, hi', hz]
        refine gives_value rfl fun w => ?_
        cases p with
        | none => cases h1
        | some a => simp [Instr.indexAt, underlying_run, hu, hx, SV.conc, hi, asIntOf, h3, h4, hz', padd, Instr.sureAddr]
     ·cases h
    ·cases h
   ·cases h
 | index t x i =>
   simp only [pureOp] at h
   split at h
   ·rename_i b k iv hx hi
    split at h
    ·rename_i ht
     have hu := isStr_true ht
     obtain ⟨rfl, rfl⟩ := some2 h
     obtain ⟨h3, h4⟩ := c2 hc
     refine gives_value rfl fun w => ?_
     have hlt : iv.toNat < b.size := by omega
     have hg : b[iv.toNat]? = some (b.data.toList.getD iv.toNat 0) := by
      rw [getElem?_pos b iv.toNat hlt]
      have : iv.toNat < b.data.toList.length := by simpa using hlt
      simp [ali05, ali04 this]
      rfl
     simp [Instr.index, underlying_run, hu, hx, hi, asIntOf, h3, hg, SV.conc]
    ·cases h
   ·cases h
 | binOp op t x y u =>
   simp only [pureOp] at h
   split at h
   ·rename_i c v hv
    obtain ⟨rfl, rfl⟩ := some2 h
    refine gives_value rfl fun w => ?_
    obtain ⟨n1, n2⟩ := binV_left hv
    rw [Sem.run_bind, eqGuard_run _ _ _ _ _ _ n1 n2, Result.andThen_ok, binV_run hv hc]; rfl
   ·obtain ⟨v, hv, rfl⟩ := map2 h
    refine gives_value rfl fun w => ?_
    obtain ⟨h1, h2⟩ := cmpOp_run hv hc w x y
    rw [Sem.run_bind, h1, Result.andThen_ok, h2]; rfl
 | unOp op t x =>
   cases op with
   | not =>
     simp only [pureOp] at h
     split at h
     ·rename_i b hx
      obtain ⟨rfl, rfl⟩ := some2 h
      exact gives_value rfl fun w => by simp only [hx]; rfl
     ·cases h
   | neg =>
     simp only [pureOp] at h
     split at h
     ·rename_i k n hx
      obtain ⟨rfl, rfl⟩ := some2 h
      exact gives_value rfl fun w => by simp only [hx]; rfl
     ·cases h
   | _ => cases h
 | convert a b x =>
   simp only [pureOp] at h
   split at h
   ·rename_i k' k k'' n hu1 hu2 hx
    obtain ⟨rfl, rfl⟩ := some2 h
    refine gives_value rfl fun w => ?_
    simp only [convert, Sem.run_bind, underlying_run, hu1, hu2, Result.andThen_ok, hx]; rfl
   ·rename_i bb hu1 hu2 hx
    obtain ⟨rfl, rfl⟩ := some2 h
    refine gives_value rfl fun w => ?_
    simp only [convert, Sem.run_bind, underlying_run, hu1, hu2, Result.andThen_ok, hx]; rfl
   ·cases h
 | slice t x lo hi mx =>
   obtain ⟨v, hv, rfl⟩ := map2 h
   exact gives_value rfl fun w => sliceV_run hv hc w
 | call c =>
   obtain ⟨callee, args, argTypes⟩ := c
   cases callee with
   | builtin b =>
     simp only [pureOp] at h
     cases hb : builtinV P b argTypes (args.toList.map s.ev) with
     | none => simp [hb] at h
     | some v =>
       simp [hb] at h
       obtain ⟨rfl, rfl⟩ := h
       intro w
       have := builtinV_run (P := P) (ty := ty) (cs := (args.map fun | .const _ => true | _ => false)) (args := args.map s.ev) (by simpa using hb) w
       rw [BigFrame.execOp_builtin]; exact this
   | _ => cases h
 | _ => cases h
end
section
variable {P : Program} {s : St} {o : Oper}
theorem pureOp_inB (hs : s.Ok) {op : Op} {cs : List Prop} {sv : SV} (h : pureOp P s op = some (cs, sv)) : sv.inB s.kn.length := by
 cases op with
 | move x => obtain ⟨rfl, rfl⟩ := some2 h; exact hs.sv x
 | assign x => obtain ⟨rfl, rfl⟩ := some2 h; exact hs.sv x
 | pick c a b =>
   simp only [pureOp] at h
   split at h
   ·rename_i t hx
    obtain ⟨rfl, rfl⟩ := some2 h
    cases t
    ·exact hs.sv b
    ·exact hs.sv a
   ·cases h
 | extract t i =>
   simp only [pureOp] at h
   split at h
   ·rename_i vs hx
    cases hv : vs[i]? with
    | none => simp [hv] at h
    | some v => simp [hv] at h; obtain ⟨rfl, rfl⟩ := h; trivial
   ·cases h
 | fieldAddr t x f =>
   simp only [pureOp] at h
   split at h
   ·split at h
    ·cases h
    ·have hx := hs.sv x
     unfold padC at h
     split at h
     ·rename_i e; rw [e] at hx; obtain ⟨rfl, rfl⟩ := some2 h; exact hx
     ·obtain ⟨rfl, rfl⟩ := some2 h; trivial
     ·cases h
   ·cases h
 | field t x f =>
   simp only [pureOp] at h
   split at h
   ·rename_i cs' fd hx hf
    split at h
    ·cases h
    split at h
    ·obtain ⟨rfl, rfl⟩ := some2 h; trivial
    ·cases hv : cs'[fd.offset]? with
     | none => simp [hv] at h
     | some v => simp [hv] at h; obtain ⟨rfl, rfl⟩ := h; trivial
   ·cases h
 | nilCheck x =>
   simp only [pureOp] at h
   have hx := hs.sv x
   split at h
   ·rename_i e; rw [e] at hx; obtain ⟨rfl, rfl⟩ := some2 h; exact hx
   ·obtain ⟨rfl, rfl⟩ := some2 h; trivial
   ·cases h
 | indexAddr t x i =>
   simp only [pureOp] at h
   split at h
   ·split at h
    ·obtain ⟨rfl, rfl⟩ := some2 h; trivial
    ·split at h
     ·rename_i n e ha
      cases hz : elemSize P e with
      | none => simp [hz] at h
      | some z => rw [hz] at h; obtain ⟨rfl, rfl⟩ := some2 h; trivial
     ·cases h
    ·cases h
   ·cases h
 | index t x i =>
   simp only [pureOp] at h
   split at h
   ·split at h
    ·obtain ⟨rfl, rfl⟩ := some2 h; trivial
    ·cases h
   ·cases h
 | binOp op t x y u =>
   simp only [pureOp] at h
   split at h
   ·obtain ⟨rfl, rfl⟩ := some2 h; trivial
   ·obtain ⟨v, _, rfl⟩ := map2 h; trivial
 | unOp op t x =>
   cases op <;> simp only [pureOp] at h <;> first | (cases h; done) | (split at h <;> first | (cases h; done) | (obtain ⟨rfl, rfl⟩ := some2 h; trivial))
 | convert a b x =>
   simp only [pureOp] at h
   split at h
   ·obtain ⟨rfl, rfl⟩ := some2 h; trivial
   ·obtain ⟨rfl, rfl⟩ := some2 h; trivial
   ·cases h
 | slice t x lo hi mx => obtain ⟨v, _, rfl⟩ := map2 h; trivial
 | call c =>
   obtain ⟨callee, args, argTypes⟩ := c
   cases callee with
   | builtin b =>
     simp only [pureOp] at h
     cases hb : builtinV P b argTypes (args.toList.map s.ev) with
     | none => simp [hb] at h
     | some v => simp [hb] at h; obtain ⟨rfl, rfl⟩ := h; trivial
   | _ => cases h
 | _ => cases h
end
def Post (d : Option Tmp) (s : St) (K : St → Prop) : Act → World → Prop :=
 fun a w => ∃ s', s'.Ok ∧ s'.act = a ∧ s'.w = w ∧ Fr d.toList s s' ∧ K s'
theorem getD_set_ne {α : Type} (l : List α) (i j : Nat) (v d : α) (h : i ≠ j) : (l.set i v).getD j d = l.getD j d := by
 simp [ali05, h]
theorem post_put {s : St} {d : Option Tmp} {K : St → Prop} {a : Act} {w : World} {s1 : St} {v : SV} (hk : K (s1.put d v))
  (hok : s.Ok) (hsl : s1.sl = s.sl) (hidx : Idx s.kn s1.kn)
  (hblk : ∀ (k : Nat) (kb : KB), s1.kn[k]? = some kb → kb.live = true → s1.w.heap[kb.idx]? = some (.cells kb.cells.toArray kb.ty (0, 0)))
  (hne : ∀ (i j : Nat) (x y : KB), s1.kn[i]? = some x → s1.kn[j]? = some y → x.live = true → y.live = true → x.idx = y.idx → i = j)
  (hv : v.inB s1.kn.length) (ha : s.act.put d (v.conc s1.kn) = a) (hw : s1.w = w) (hdf : s1.df = s.df := by rfl) : Post d s K a w := by
 have hcl : ∀ x ∈ s.sl, x.conc s1.kn = x.conc s.kn := fun x hx => by
  obtain ⟨i, hi⟩ := alj26 hx
  exact hidx.conc (hok.locs i x hi)
 refine ⟨s1.put d v, ⟨?_, ?_, ?_⟩, ?_, ?_, ⟨?_, ?_, ?_, ?_⟩, hk⟩
 ·cases d <;> exact hblk
 ·cases d <;> exact hne
 ·have hl : ∀ (i : Nat) (u : SV), s1.sl[i]? = some u → u.inB s1.kn.length := fun i u hu => (hok.locs i u (by rw [← hsl]; exact hu)).mono hidx.length
  cases d with
  | none => exact hl
  | some d =>
    intro i u hu
    simp only [St.put, ali33] at hu
    split at hu
    ·split at hu
     ·cases hu; exact hv
     ·cases hu
    ·exact hl i u hu
 ·rw [St.put_act, ← ha]
  have : s1.act = s.act := by
   simp only [St.act, hsl, hdf]
   congr 2
   exact alj34 hcl
  rw [this]
 ·cases d <;> exact hw
 ·cases d <;> simp [St.put, hsl]
 ·intro i hi
  have : (s1.put d v).sl.getD i (.val undef) = s.sl.getD i (.val undef) := by
   cases d with
   | none => simp [St.put, hsl]
   | some d => simp only [St.put, hsl]; exact getD_set_ne _ _ _ _ _ (fun e => hi (by simp [e]))
  rw [this]
  have hkn : (s1.put d v).kn = s1.kn := by cases d <;> rfl
  rw [hkn]
  simp only [ali05]
  cases hg : s.sl[i]? with
  | none => rfl
  | some u => exact hidx.conc (hok.locs i u hg)
 ·cases d <;> exact hidx
 ·have : (s1.put d v).df = s.df := by cases d <;> exact hdf
  rw [this]; exact ⟨ali34 _, fun _ => rfl⟩
theorem wp_pure {P : Program} {s : St} {o : Oper} {K : St → Prop} {Q : Exit → Act → World → Prop} {cs : List Prop} {sv : SV} (hok : s.Ok) (h : pureOp P s o.op = some (cs, sv)) (hk : AndL cs (K (s.put o.dst sv))) :
  o.wp P s.act s.w (Post o.dst s K) Q := by
 rw [AndL_iff] at hk
 unfold Oper.wp
 rw [St.eval_eq, pureOp_gives h hk.1]
 exact post_put hk.2 hok rfl (Idx.refl _) hok.blk hok.ne (pureOp_inB hok h) rfl rfl
def LoadL (w : World) (p : Option Addr) : Nat → List Value → Prop
 | _, [] => True
 | i, [v] => ld w (padd p i) = some v
 | i, v :: u :: r => ld w (padd p i) = some v ∧ LoadL w p (i + 1) (u :: r)
def loadV (P : Program) (w : World) (p : Option Addr) (t : TypeId) (F : Value → Prop) : Prop :=
 match t1Of P t with
 | .sc c => c.ex fun v => ld w p = some v ∧ F v
 | .agg l => if l.length = sizeAt P t ∧ l.isEmpty = false then exL l fun vs => LoadL w p 0 vs ∧ F (.agg vs.toArray) else False
def cellsOf : Value → List Value
 | .agg cs => cs.toList
 | v => [v]
def setCs (w : World) (a : Addr) : Nat → List Value → World
 | _, [] => w
 | i, v :: r => setCs (w.setCell (a.add i) v) a (i + 1) r
def setP (w : World) (p : Option Addr) (vs : List Value) : World := match p with | some a => setCs w a 0 vs | none => w
def Wr (w : World) (p : Option Addr) (n : Nat) : Prop := ∀ i, i < n → ∃ a, p = some a ∧ (w.cell? (a.add i)).isSome = true ∧ w.frozen? (a.add i) = false
def oneC : Value → List Prop
 | .agg _ | .tuple _ => [False]
 | _ => []
def pblk : Option Addr → Option Nat := fun p => p.map (·.block)
def lives (kn : List KB) : List Nat := (kn.filter (·.live)).map (·.idx)
def keepsC (kn : List KB) (w w' : World) : List Prop := (lives kn).map fun i => w'.heap[i]? = w.heap[i]?
def apartC (kn : List KB) (p : Option Addr) : List Prop := (lives kn).map fun i => pblk p ≠ some i
def putCells (cs : List Value) (off : Nat) : List Value → List Value
 | [] => cs
 | v :: r => putCells (cs.set off v) (off + 1) r
def St.killK (s : St) (k : Nat) : St := { s with kn := s.kn.modify k fun kb => { kb with live := false } }
def St.kill (s : St) : List SV → St
 | [] => s
 | .loc k _ :: r | .sli k _ :: r => (s.killK k).kill r
 | .val _ :: r => s.kill r
def isArr (P : Program) (t : TypeId) : Bool := match P.underlying t with | some (.array _ _) => true | _ => false
def allocV (P : Program) (s : St) (d : Option Tmp) (t : TypeId) (cs : List Value) (K : St → Prop) : Prop :=
 match isArr P t with
 | true => ∀ w1, w1 = s.w.alloc (.cells cs.toArray t) → K ({ s with w := w1 }.put d (.val (.pointer (some ⟨s.w.heap.size, 0, none⟩))))
 | false => ∀ w1, w1 = s.w.alloc (.cells cs.toArray t) → K ({ s with w := w1, kn := s.kn ++ [KB.mk s.w.heap.size cs t true] }.put d (.loc s.kn.length 0))
def zeroOf (P : Program) (t : TypeId) : Option (List Value) := ((P.info? t).bind (·.zero)).map cellsOf
section
variable {P : Program} {s : St} {o : Oper} {K : St → Prop} {Q : Exit → Act → World → Prop}
theorem post_val {d : Option Tmp} {v : Value} (hok : s.Ok) (hk : K (s.put d (.val v))) : Post d s K (s.act.put d v) s.w :=
 post_put hk hok rfl (Idx.refl _) hok.blk hok.ne trivial rfl rfl
theorem idx_append (kn : List KB) (l : List KB) : Idx kn (kn ++ l) := fun k kb hk => ⟨kb, by
 rw [ali18 (by have := (ali03.1 hk).1; exact this)]; exact hk, rfl, rfl⟩
theorem cells_eq (v : Value) : v.cells.toList = cellsOf v := by cases v <;> rfl
theorem cells_eq' (v : Value) : v.cells = (cellsOf v).toArray := by cases v <;> rfl
theorem post_alloc {d : Option Tmp} {t : TypeId} {cs : List Value} (hok : s.Ok) (hk : allocV P s d t cs K) :
  Post d s K (s.act.put d (.pointer (some ⟨s.w.heap.size, 0, none⟩))) (s.w.alloc (.cells cs.toArray t)) := by
 have hold : ∀ i, i < s.w.heap.size → (s.w.alloc (.cells cs.toArray t)).heap[i]? = s.w.heap[i]? := fun i hi => Below.heap_alloc _ _ _ hi
 have hnew : (s.w.alloc (.cells cs.toArray t)).heap[s.w.heap.size]? = some (.cells cs.toArray t (0, 0)) := by
  show (s.w.heap.push _)[s.w.heap.size]? = _
  simp
 unfold allocV at hk
 split at hk
 ·have hk := hk _ rfl
  exact post_put hk hok rfl (Idx.refl _) (fun k kb h1 h2 => by rw [← hok.blk k kb h1 h2]; exact hold _ (hok.lt k kb h1 h2)) hok.ne trivial rfl rfl
 ·have hk := hk _ rfl
  refine post_put hk hok rfl (idx_append _ _) (fun k kb h1 h2 => ?_) (fun i j x y h1 h2 h3 h4 h5 => ?_) (show s.kn.length < (s.kn ++ [_]).length by simp) ?_ rfl
  ·rcases alj62 k s.kn.length with hlt | hge
   ·simp only [ali18 hlt] at h1
    rw [← hok.blk k kb h1 h2]; exact hold _ (hok.lt k kb h1 h2)
   ·simp only [ali19 hge] at h1
    cases hz : k - s.kn.length with
    | zero => simp [hz] at h1; subst h1; exact hnew
    | succ n => simp [hz] at h1
  ·have key : ∀ (i : Nat) (x : KB), (s.kn ++ [KB.mk s.w.heap.size cs t true])[i]? = some x → (i < s.kn.length ∧ s.kn[i]? = some x) ∨ (i = s.kn.length ∧ x.idx = s.w.heap.size) := by
    intro i x hx
    rcases alj62 i s.kn.length with hlt | hge
    ·exact .inl ⟨hlt, by rwa [ali18 hlt] at hx⟩
    ·rw [ali19 hge] at hx
     cases hz : i - s.kn.length with
     | zero => simp [hz] at hx; subst hx; exact .inr ⟨by omega, rfl⟩
     | succ n => simp [hz] at hx
   rcases key i x h1 with ⟨a1, a2⟩ | ⟨a1, a2⟩ <;> rcases key j y h2 with ⟨b1, b2⟩ | ⟨b1, b2⟩
   ·exact hok.ne i j x y a2 b2 h3 h4 h5
   ·have := hok.lt i x a2 h3; omega
   ·have := hok.lt j y b2 h4; omega
   ·omega
  ·simp [SV.conc, ali05]
theorem newObj_run (ob : Obj) (w : World) : (newObj ob).run P w = .ok w.heap.size (w.alloc ob) := rfl
theorem alloc_run {t : TypeId} {cs : List Value} (h : zeroOf P t = some cs) (w : World) :
  (Instr.alloc t true (.tuple #[])).run P w = .ok (.pointer (some ⟨w.heap.size, 0, none⟩)) (w.alloc (.cells cs.toArray t)) := by
 unfold zeroOf at h
 cases hi : P.info? t with
 | none => simp [hi] at h
 | some i =>
   cases hz : i.zero with
   | none => simp [hi, hz] at h
   | some v =>
     simp [hi, hz] at h; subst h
     simp [Instr.alloc, zeroValue, typeInfo_run, hi, hz, newVar, newRow, newObj_run, cells_eq']
theorem box_run {t : TypeId} {v : Value} (w : World) :
  (Instr.box t v).run P w = .ok (.pointer (some ⟨w.heap.size, 0, none⟩)) (w.alloc (.cells (cellsOf v).toArray t)) := by
 simp [Instr.box, newVar, newRow, newObj_run, cells_eq']
end
section
variable {P : Program} {s : St} {o : Oper} {K : St → Prop} {Q : Exit → Act → World → Prop}
def St.known (s : St) (k : Nat) : Option KB := match s.kn[k]? with | some kb => (match kb.live with | true => some kb | false => none) | none => none
theorem known_some {k : Nat} {kb : KB} (h : s.known k = some kb) : s.kn[k]? = some kb ∧ kb.live = true := by
 unfold St.known at h
 split at h
 ·split at h
  ·cases h; exact ⟨by assumption, by assumption⟩
  ·cases h
 ·cases h
def loadOp (P : Program) (s : St) (d : Option Tmp) (t : TypeId) (x : SV) (K : St → Prop) : Prop :=
 match x with
 | .loc k off => match s.known k with
   | some kb => match t1Of P t with
     | .sc _ => match kb.cells[off]? with | some v => K (s.put d (.val v)) | none => False
     | .agg l => if l.length = sizeAt P t ∧ off + l.length ≤ kb.cells.length then K (s.put d (.val (.agg ((kb.cells.drop off).take l.length).toArray))) else False
   | none => loadV P s.w (some ⟨(s.kn.getD k default).idx, off, none⟩) t fun v => K (s.put d (.val v))
 | .val (.pointer p) => loadV P s.w p t fun v => K (s.put d (.val v))
 | _ => False
theorem isAg_run {t : TypeId} (w : World) {d : TypeDesc} (hu : P.underlying t = some d) : (isAgg t).run P w = .ok (isAg P t) w := by
 simp only [isAgg, Sem.run_bind, underlying_run, hu, Result.andThen_ok, isAg]
 cases d <;> rfl
theorem t1_sc {t : TypeId} {c : S} (h : t1Of P t = .sc c) : isAg P t = false := by
 unfold t1Of at h; split at h
 ·cases h
 ·rename_i h'; simpa using h'
theorem t1_agg {t : TypeId} {l : List S} (h : t1Of P t = .agg l) : isAg P t = true := by
 unfold t1Of at h; split at h
 ·assumption
 ·cases h
theorem loadCells_run {a : Addr} {w : World} : ∀ (n i : Nat) (acc : Array Value) (vs : List Value), vs.length = n → (∀ j, j < n → w.cell? (a.add (i + j)) = vs[j]?) →
  (loadCellsFrom a i n acc).run P w = .ok (acc ++ vs.toArray) w := by
 intro n
 induction n with
 | zero => intro i acc vs hl _; have : vs = [] := alj31.1 hl; subst this; simp [loadCellsFrom]
 | succ n ih =>
   intro i acc vs hl h
   cases vs with
   | nil => simp at hl
   | cons v r =>
     have h0 := h 0 omm
     simp at h0
     simp only [loadCellsFrom, Sem.run_bind, run_load, h0, Result.andThen_ok]
     rw [ih (i + 1) _ r (by simpa using hl) (fun j hj => by have := h (j + 1) omm; simpa [Nat.add_assoc, alj55 1 j] using this)]
     simp
theorem LoadL_at {w : World} {p : Option Addr} : ∀ {i : Nat} {vs : List Value}, LoadL w p i vs → ∀ j, j < vs.length → ld w (padd p (i + j)) = vs[j]?
 | _, [], _, j, hj => by simp at hj
 | i, [v], h, j, hj => by
   have : j = 0 := by simp at hj; exact hj
   subst this; exact h
 | i, v :: u :: r, h, j, hj => by
   cases j with
   | zero => exact h.1
   | succ j =>
     have := LoadL_at h.2 j (by simpa using hj)
     rw [show i + (j + 1) = i + 1 + j by omega, this]; simp
theorem loadV_run {t : TypeId} {p : Option Addr} {F : Value → Prop} {w : World} (hu : (P.underlying t).isSome = true) (h : loadV P w p t F) :
  ∃ a v, p = some a ∧ F v ∧ (Instr.loadAt t (.pointer (some a))).run P w = .ok v w := by
 obtain ⟨d, hu⟩ := ali29.1 hu
 unfold loadV at h
 cases ht : t1Of P t with
 | sc c =>
   rw [ht] at h
   obtain ⟨v, h1, h2⟩ := S.ex_out h
   cases p with
   | none => simp [ld] at h1
   | some a =>
     refine ⟨a, v, rfl, h2, ?_⟩
     have h1' : w.cell? a = some v := h1
     simp [Instr.loadAt, Instr.sureAddr, loadVar, isAg_run w hu, t1_sc ht, h1']
 | agg l =>
   simp only [ht] at h
   split at h
   ·rename_i hl
    have : ∃ vs, vs.length = l.length ∧ LoadL w p 0 vs ∧ F (.agg vs.toArray) := by
     have key : ∀ (l : List S) (G : List Value → Prop), exL l G → ∃ vs, vs.length = l.length ∧ G vs := by
      intro l
      induction l with
      | nil => intro G hG; exact ⟨[], rfl, hG⟩
      | cons c r ih =>
        rintro G ⟨x, hx⟩
        obtain ⟨vs, h1, h2⟩ := ih _ hx
        exact ⟨_, by simp [h1], h2⟩
     exact key l _ h
    obtain ⟨vs, e, h1, h2⟩ := this
    have hi := info_of_underlying hu
    have hp : ∃ a, p = some a := by
     cases p with
     | some a => exact ⟨a, rfl⟩
     | none =>
       have h0 : 0 < vs.length := by
        cases l with
        | nil => simp at hl
        | cons _ _ => simp at e; omega
       have := LoadL_at h1 0 h0
       simp [ld, padd, ali04 h0] at this
    obtain ⟨a, rfl⟩ := hp
    refine ⟨a, _, rfl, h2, ?_⟩
    simp only [Instr.loadAt, Instr.sureAddr, loadVar, Sem.run_bind, Sem.run_pure, Result.andThen_ok, isAg_run w hu, t1_agg ht, if_true, sizeOf_run hi, loadCells]
    rw [loadCells_run _ 0 #[] vs omm (fun j hj => by have := LoadL_at h1 j omm; simpa [ld, padd] using this)]
    simp
   ·cases h
end
section
variable {P : Program} {s : St} {o : Oper} {K : St → Prop} {Q : Exit → Act → World → Prop}
theorem cell_of {w : World} {i : Nat} {c : Array Value} {t : TypeId} {f : Nat × Nat} (h : w.heap[i]? = some (.cells c t f)) (j : Nat) : w.cell? ⟨i, j, none⟩ = c[j]? := by simp [World.cell?, h]
theorem frozen_of {w : World} {i : Nat} {c : Array Value} {t : TypeId} (h : w.heap[i]? = some (.cells c t (0, 0))) (j : Nat) : w.frozen? ⟨i, j, none⟩ = false := by simp [World.frozen?, h]
theorem add_loc (i o n : Nat) : (⟨i, o, none⟩ : Addr).add n = ⟨i, o + n, none⟩ := by unfold Addr.add; split <;> simp_all
theorem loadOp_run {d : Option Tmp} {t : TypeId} {x : SV} (hok : s.Ok) (hu : (P.underlying t).isSome = true) (h : loadOp P s d t x K) :
  ∃ a v, x.conc s.kn = .pointer (some a) ∧ K (s.put d (.val v)) ∧ (Instr.loadAt t (.pointer (some a))).run P s.w = .ok v s.w := by
 unfold loadOp at h
 split at h
 ·rename_i k off
  split at h
  ·rename_i kb hkb
   obtain ⟨h1, h2⟩ := known_some hkb
   have hb := hok.blk k kb h1 h2
   have hidx : (s.kn.getD k default).idx = kb.idx := by simp [ali05, h1]
   refine ⟨⟨kb.idx, off, none⟩, ?_⟩
   obtain ⟨dd, hu'⟩ := ali29.1 hu
   split at h
   ·rename_i c ht
    split at h
    ·rename_i v hv
     refine ⟨v, by rw [SV.conc, hidx], h, ?_⟩
     have hc : s.w.cell? ⟨kb.idx, off, none⟩ = some v := by rw [cell_of hb]; simpa using hv
     simp [Instr.loadAt, Instr.sureAddr, loadVar, isAg_run _ hu', t1_sc ht, hc]
    ·cases h
   ·rename_i l ht
    split at h
    ·rename_i hl
     refine ⟨_, by rw [SV.conc, hidx], h, ?_⟩
     simp only [Instr.loadAt, Instr.sureAddr, loadVar, Sem.run_bind, Sem.run_pure, Result.andThen_ok, isAg_run _ hu', t1_agg ht, if_true, sizeOf_run (info_of_underlying hu'), loadCells]
     rw [loadCells_run _ 0 #[] ((kb.cells.drop off).take l.length) (by simp; omega) (fun j hj => by
      rw [add_loc, cell_of hb]
      simp [alj29, alj24, show j < l.length by omega])]
     simp
    ·cases h
  ·obtain ⟨a, v, h1, h2, h3⟩ := loadV_run hu h
   cases h1
   exact ⟨_, v, rfl, h2, h3⟩
 ·rename_i p
  obtain ⟨a, v, h1, h2, h3⟩ := loadV_run hu h
  subst h1
  exact ⟨a, v, rfl, h2, h3⟩
 ·cases h
def storeOp (P : Program) (s : St) (d : Option Tmp) (t : TypeId) (x v : SV) (K : St → Prop) : Prop :=
 let vs := cellsOf (v.conc s.kn)
 AndL (vs.flatMap oneC) <| if vs.length = sizeAt P t then
  match x with
  | .loc k off => match s.known k with
    | some kb => if off + vs.length ≤ kb.cells.length then
      ∀ w1, w1 = s.w.setRow kb.idx (putCells kb.cells off vs).toArray → K ((({ s with w := w1, kn := s.kn.modify k fun b => { b with cells := putCells kb.cells off vs } }).kill [v]).put d (.val undef)) else False
    | none => Wr s.w (some ⟨(s.kn.getD k default).idx, off, none⟩) vs.length ∧ AndL (apartC s.kn (some ⟨(s.kn.getD k default).idx, off, none⟩)) (∀ w1, w1 = setP s.w (some ⟨(s.kn.getD k default).idx, off, none⟩) vs → K ((({ s with w := w1 }).kill [v]).put d (.val undef)))
  | .val (.pointer p) => (p.isSome = true ∧ Wr s.w p vs.length) ∧ AndL (apartC s.kn p) (∀ w1, w1 = setP s.w p vs → K ((({ s with w := w1 }).kill [v]).put d (.val undef)))
  | _ => False
 else False
theorem putCells_eq : ∀ (vs : List Value) (cs : List Value) (off : Nat), off + vs.length ≤ cs.length → putCells cs off vs = cs.take off ++ vs ++ cs.drop (off + vs.length)
 | [], cs, off, _ => by simp [putCells]
 | v :: r, cs, off, h => by
   simp only [ali10] at h
   rw [putCells, putCells_eq r _ _ (by simp; omega)]
   have h1 : (cs.set off v).take (off + 1) = cs.take off ++ [v] := by
    apply ali20
    intro j
    simp only [alj29, ali33, List.getElem?_append, ali12]
    rcases Nat.lt_trichotomy j off with hj | hj | hj
    ·simp [hj, show j < off + 1 by omega, show ¬ off = j by omega, show j < min off cs.length by omega]
    ·subst hj; simp [show j < cs.length by omega, show ¬ j < min j cs.length by omega, show j - min j cs.length = 0 by omega]
    ·simp [show ¬ j < off + 1 by omega, show ¬ j < min off cs.length by omega, show ¬ j < off by omega]
     have : j - min off cs.length ≠ 0 := by omega
     cases hz : j - min off cs.length with
     | zero => omega
     | succ n => simp
   have h2 : (cs.set off v).drop (off + 1 + r.length) = cs.drop (off + (r.length + 1)) := by
    apply ali20
    intro j
    simp only [alj24, ali33]
    simp [show ¬ off = off + 1 + r.length + j by omega]
    congr 1; omega
   rw [h1, h2]; simp
theorem putCells_length (vs : List Value) : ∀ (cs : List Value) (off : Nat), (putCells cs off vs).length = cs.length := by
 induction vs with
 | nil => intro cs off; rfl
 | cons v r ih => intro cs off; rw [putCells, ih]; simp
theorem oneC_of {vs : List Value} (h : ∀ p ∈ vs.flatMap oneC, p) : ∀ v ∈ vs, v.oneCell' = true := by
 intro v hv
 cases v with
 | agg c => exact (h False (List.mem_flatMap.2 ⟨_, hv, by simp [oneC]⟩)).elim
 | tuple c => exact (h False (List.mem_flatMap.2 ⟨_, hv, by simp [oneC]⟩)).elim
 | _ => rfl
theorem storeCells_run (a : Addr) : ∀ (vs : List Value) (i : Nat) (w : World), (∀ v ∈ vs, v.oneCell' = true) →
  (∀ j, j < vs.length → (w.cell? (a.add (i + j))).isSome = true ∧ w.frozen? (a.add (i + j)) = false) → (storeCells a vs i).run P w = .ok () (setCs w a i vs)
 | [], i, w, _, _ => rfl
 | v :: r, i, w, h1, h2 => by
   obtain ⟨u, hu⟩ := ali29.1 (h2 0 smm).1
   have hf := (h2 0 smm).2
   simp only [Nat.add_zero] at hu hf
   simp only [storeCells, Sem.run_bind, run_store P w _ v _ (h1 v smm), hu, hf]
   simp only [Bool.false_eq_true, if_false, Result.andThen_ok, setCs]
   refine storeCells_run a r (i + 1) _ (fun v hv => h1 v (by simp [hv])) (fun j hj => ?_)
   have := h2 (j + 1) (by simpa using hj)
   rw [show i + (j + 1) = i + 1 + j by omega] at this
   refine ⟨?_, by rw [World.frozen?_setCell]; exact this.2⟩
   by_cases e : a.add i = a.add (i + 1 + j)
   ·rw [← e, World.cell?_setCell_same _ _ _ hu]; rfl
   ·rw [World.cell?_setCell_other _ _ _ _ e]; exact this.1
theorem killK_Ok {s : St} (hok : s.Ok) (k : Nat) : (s.killK k).Ok ∧ (s.killK k).sl = s.sl ∧ (s.killK k).w = s.w ∧ Idx s.kn (s.killK k).kn ∧ (s.killK k).kn.length = s.kn.length := by
 have key : ∀ (i : Nat) (x : KB), (s.killK k).kn[i]? = some x → x.live = true → s.kn[i]? = some x := by
  intro i x hx hl
  simp only [St.killK, alj25] at hx
  split at hx
  ·cases hy : s.kn[i]? with
   | none => simp [hy] at hx
   | some y => simp [hy] at hx; subst hx; simp at hl
  ·cases hy : s.kn[i]? with
   | none => simp [hy] at hx
   | some y => simpa [hy] using hx
 refine ⟨⟨fun i x h1 h2 => hok.blk i x (key i x h1 h2) h2, fun i j x y h1 h2 h3 h4 h5 => hok.ne i j x y (key i x h1 h3) (key j y h2 h4) h3 h4 h5, ?_⟩, rfl, rfl, ?_, by simp [St.killK]⟩
 ·intro i v hv
  have := hok.locs i v hv
  simpa [St.killK] using this
 ·intro i x hx
  refine ⟨if k = i then { x with live := false } else x, ?_, by split <;> rfl, by split <;> rfl⟩
  simp only [St.killK, alj25, hx]
  split <;> rfl
theorem kill_Ok : ∀ (l : List SV) {s : St}, s.Ok → (s.kill l).Ok ∧ (s.kill l).sl = s.sl ∧ (s.kill l).w = s.w ∧ Idx s.kn (s.kill l).kn ∧ (s.kill l).kn.length = s.kn.length
 | [], s, h => ⟨h, rfl, rfl, Idx.refl _, rfl⟩
 | .val _ :: r, s, h => kill_Ok r h
 | .loc k _ :: r, s, h => by
   obtain ⟨a1, a2, a3, a4, a5⟩ := killK_Ok h k
   obtain ⟨b1, b2, b3, b4, b5⟩ := kill_Ok r a1
   exact ⟨b1, b2.trans a2, b3.trans a3, a4.trans b4, b5.trans a5⟩
 | .sli k _ :: r, s, h => by
   obtain ⟨a1, a2, a3, a4, a5⟩ := killK_Ok h k
   obtain ⟨b1, b2, b3, b4, b5⟩ := kill_Ok r a1
   exact ⟨b1, b2.trans a2, b3.trans a3, a4.trans b4, b5.trans a5⟩
theorem kill_df : ∀ (l : List SV) (s : St), (s.kill l).df = s.df
 | [], _ => rfl
 | .val _ :: r, s => kill_df r s
 | .loc k _ :: r, s => kill_df r (s.killK k)
 | .sli k _ :: r, s => kill_df r (s.killK k)
theorem post_ok {d : Option Tmp} {a : Act} {w : World} {s1 : St} {v : SV} (hk : K (s1.put d v)) (hok : s.Ok) (h1 : s1.Ok) (hsl : s1.sl = s.sl) (hidx : Idx s.kn s1.kn)
  (hv : v.inB s1.kn.length) (ha : s.act.put d (v.conc s1.kn) = a) (hw : s1.w = w) (hdf : s1.df = s.df := by first | rfl | exact kill_df _ _) : Post d s K a w :=
 post_put hk hok hsl hidx h1.blk h1.ne hv ha hw hdf
theorem Ok_world {s : St} (hok : s.Ok) {w' : World} (h : ∀ p ∈ keepsC s.kn s.w w', p) : ({ s with w := w' } : St).Ok := by
 refine ⟨fun k kb h1 h2 => ?_, hok.ne, hok.locs⟩
 rw [← hok.blk k kb h1 h2]
 refine h _ (ali06.2 ⟨kb.idx, ?_, rfl⟩)
 exact ali06.2 ⟨kb, alj40.2 ⟨ali00 h1, h2⟩, rfl⟩
theorem storeOp_post {d : Option Tmp} {t : TypeId} {x v : SV} (hok : s.Ok) (hi : (P.info? t).isSome = true) (h : storeOp P s d t x v K) :
  ∃ a w', x.conc s.kn = .pointer (some a) ∧ (Instr.storeAt t (.pointer (some a)) (v.conc s.kn)).run P s.w = .ok () w' ∧ Post d s K (s.act.put d undef) w' := by
 unfold storeOp at h
 simp only [AndL_iff] at h
 obtain ⟨hone, h⟩ := h
 have hone := oneC_of hone
 split at h
 case isFalse => cases h
 rename_i hsz
 have hrun : ∀ (a : Addr) (w' : World), (storeCells a (cellsOf (v.conc s.kn)) 0).run P s.w = .ok () w' → (Instr.storeAt t (.pointer (some a)) (v.conc s.kn)).run P s.w = .ok () w' := by
  intro a w' hw
  have : (v.conc s.kn).cells.size = sizeAt P t := by rw [cells_eq', ← hsz]; simp
  simp only [Instr.storeAt, Instr.sureAddr, storeVar, Sem.run_bind, Sem.run_pure, Result.andThen_ok, sizeOf_run hi, this, ne_eq, not_true_eq_false, if_false, cells_eq]
  exact hw
 have hgen : ∀ (p : Option Addr), x.conc s.kn = .pointer p → p.isSome = true → Wr s.w p (cellsOf (v.conc s.kn)).length → (∀ q ∈ apartC s.kn p, q) →
   K ((({ s with w := setP s.w p (cellsOf (v.conc s.kn)) }).kill [v]).put d (.val undef)) →
   ∃ a w', x.conc s.kn = .pointer (some a) ∧ (Instr.storeAt t (.pointer (some a)) (v.conc s.kn)).run P s.w = .ok () w' ∧ Post d s K (s.act.put d undef) w' := by
  intro p hx hp hwr hap hk
  obtain ⟨a, rfl⟩ := ali29.1 hp
  have hblk : ∀ (vs : List Value) (w : World) (i k : Nat), k ≠ a.block → (setCs w a i vs).heap[k]? = w.heap[k]? := by
   intro vs
   induction vs with
   | nil => intro w i k _; rfl
   | cons u r ih =>
     intro w i k hk
     rw [setCs, ih _ _ _ hk]
     exact Below.heap_setCell _ _ _ _ (by unfold Addr.add; split <;> exact hk)
  have hok' : ({ s with w := setCs s.w a 0 (cellsOf (v.conc s.kn)) } : St).Ok := by
   refine Ok_world hok fun q hq => ?_
   obtain ⟨i, hi, rfl⟩ := ali06.1 hq
   refine hblk _ _ _ _ ?_
   have := hap (pblk (some a) ≠ some i) (ali06.2 ⟨i, hi, rfl⟩)
   intro e; exact this (by simp [pblk, e])
  obtain ⟨k1, k2, k3, k4, k5⟩ := kill_Ok [v] hok'
  refine ⟨a, _, hx, hrun a _ (storeCells_run a _ 0 _ hone fun j hj => ?_), post_ok hk hok k1 k2 k4 trivial rfl k3⟩
  obtain ⟨a', e, h1, h2⟩ := hwr j hj
  cases e
  simp only [ali37]
  exact ⟨h1, h2⟩
 split at h
 ·rename_i k off
  split at h
  ·rename_i kb hkb
   split at h
   case isFalse => cases h
   rename_i hlen
   obtain ⟨h1, h2⟩ := known_some hkb
   have hb := hok.blk k kb h1 h2
   have hidx : (s.kn.getD k default).idx = kb.idx := by simp [ali05, h1]
   have hrow : ∀ j, j ≠ kb.idx → (s.w.setRow kb.idx (putCells kb.cells off (cellsOf (v.conc s.kn))).toArray).heap[j]? = s.w.heap[j]? := by
    intro j hj
    simp only [World.setRow, Array.getElem?_modify, if_neg (Ne.symm hj)]
   have hok' : ({ s with w := s.w.setRow kb.idx (putCells kb.cells off (cellsOf (v.conc s.kn))).toArray, kn := s.kn.modify k fun b => { b with cells := putCells kb.cells off (cellsOf (v.conc s.kn)) } } : St).Ok := by
    have key : ∀ (i : Nat) (y : KB), (s.kn.modify k fun b => { b with cells := putCells kb.cells off (cellsOf (v.conc s.kn)) })[i]? = some y → ∃ z, s.kn[i]? = some z ∧ y.idx = z.idx ∧ y.live = z.live ∧ y.ty = z.ty ∧ (i ≠ k → y = z) ∧ (i = k → y.cells = putCells kb.cells off (cellsOf (v.conc s.kn))) := by
     intro i y hy
     simp only [alj25] at hy
     split at hy
     ·rename_i e; subst e
      rw [h1] at hy; simp at hy; subst hy
      exact ⟨kb, h1, rfl, rfl, rfl, fun e => absurd rfl e, fun _ => rfl⟩
     ·rename_i e
      cases hz : s.kn[i]? with
      | none => simp [hz] at hy
      | some z => simp [hz] at hy; subst hy; exact ⟨_, rfl, rfl, rfl, rfl, fun _ => rfl, fun e' => absurd e'.symm e⟩
    refine ⟨fun i y hy hl => ?_, fun i j x y hx hy l1 l2 e => ?_, fun i u hu => by simpa using hok.locs i u hu⟩
    ·obtain ⟨z, z1, z2, z3, z4, z5, z6⟩ := key i y hy
     by_cases e : i = k
     ·subst e
      rw [h1] at z1; cases z1
      rw [z6 rfl, z2, z4]
      exact setRow_heap _ _ _ _ _ _ hb
     ·have := z5 e; subst this
      have hne : y.idx ≠ kb.idx := fun e' => e (hok.ne i k y kb z1 h1 hl h2 e')
      show (s.w.setRow _ _).heap[_]? = _
      rw [hrow _ hne]; exact hok.blk i y z1 hl
    ·obtain ⟨z, z1, z2, z3, _⟩ := key i x hx
     obtain ⟨z', z1', z2', z3', _⟩ := key j y hy
     exact hok.ne i j z z' z1 z1' (by rw [← z3]; exact l1) (by rw [← z3']; exact l2) (by rw [← z2, ← z2']; exact e)
   have hidx' : Idx s.kn (s.kn.modify k fun b => { b with cells := putCells kb.cells off (cellsOf (v.conc s.kn)) }) := by
    intro i y hy
    refine ⟨if k = i then { y with cells := putCells kb.cells off (cellsOf (v.conc s.kn)) } else y, ?_, by split <;> rfl, by split <;> rfl⟩
    simp only [alj25, hy]
    split <;> rfl
   obtain ⟨k1, k2, k3, k4, k5⟩ := kill_Ok [v] hok'
   have h := h _ rfl
   refine ⟨⟨kb.idx, off, none⟩, _, by rw [SV.conc, hidx], hrun _ _ ?_, post_ok h hok k1 k2 (hidx'.trans k4) trivial rfl k3⟩
   rw [run_storeCells_at P kb.idx off kb.ty _ 0 _ _ hb (by simpa using hlen) hone]
   rw [putCells_eq _ _ _ hlen]
   simp
  ·obtain ⟨h1, h2⟩ := h
   exact hgen _ rfl rfl h1 h2.1 (h2.2 _ rfl)
 ·rename_i p
  obtain ⟨h1, h2⟩ := h
  exact hgen p rfl h1.1 h1.2 h2.1 (h2.2 _ rfl)
 ·cases h
end
section
variable {P : Program} {s : St} {o : Oper} {K : St → Prop} {Q : Exit → Act → World → Prop}
def Rd (w : World) (p : Option Addr) (vs : List Value) : Prop := ∀ i v, vs[i]? = some v → ld w (padd p i) = some v
def One (vs : List Value) : Prop := ∀ u ∈ vs, u.oneCell' = true
structure AppPre (bytes size : Nat) (w : World) (sl : Sl) (n : Nat) (news : List Value) : Prop where
 fits : sl.n + n ≤ sl.c → Wr w (padd sl.a (sl.n * size)) news.length
 olds : sl.c < sl.n + n → ∃ olds : List Value, olds.length = sl.n * size ∧ Rd w sl.a olds
 room : sl.c < sl.n + n → Builtin.nextslicecap (sl.n + n) sl.c * bytes ≤ 281474976710656 ∧ ((sl.n + n : Nat) : Int) ≤ 9223372036854775807
 len : news.length = n * size
 one : One news
inductive AppRes (E size : Nat) (w : World) (sl : Sl) (n : Nat) (news : List Value) : Sl → World → Prop
 | fits (h : sl.n + n ≤ sl.c) : AppRes E size w sl n news ⟨sl.a, sl.n + n, sl.c⟩ (setP w (padd sl.a (sl.n * size)) news)
 | grows (h : sl.c < sl.n + n) (olds rest : List Value) (cap : Nat) (h1 : olds.length = sl.n * size) (h2 : Rd w sl.a olds) (h3 : sl.n + n ≤ cap) (h4 : (olds ++ news ++ rest).length = cap * size) :
   AppRes E size w sl n news ⟨some ⟨w.heap.size, 0, none⟩, sl.n + n, cap⟩ (w.drew.alloc (.cells (olds ++ news ++ rest).toArray E))
def elemInfo (P : Program) (t : TypeId) : Option (TypeId × TypeInfo) := match P.underlying t with | some (.slice e) => (P.info? e).map fun i => (e, i) | _ => none
def srcOk (P : Program) (tx : TypeId) : Bool := match P.underlying tx with | some (.slice _) => true | _ => false
theorem grownCap_ge {w : World} {need c : Nat} {e : TypeId} (h : ((need : Nat) : Int) ≤ 9223372036854775807) : need ≤ grownCap w need c e := by
 simp only [grownCap, Question.cut]; omega
def zeroRows (z : List Value) (n : Nat) : List Value := (List.replicate n z).flatten
theorem zeroRows_len (z : List Value) (n : Nat) : (zeroRows z n).length = n * z.length := by simp [zeroRows]
theorem zeroRows_get (z : List Value) : ∀ (n i : Nat), i < n * z.length → (zeroRows z n)[i]? = z[i % z.length]?
 | 0, i, h => by omega
 | n + 1, i, h => by
   have e : zeroRows z (n + 1) = z ++ zeroRows z n := by simp [zeroRows, List.replicate_succ]
   rw [e]
   rcases alj62 i z.length with hi | hi
   ·rw [ali18 hi, Nat.mod_eq_of_lt hi]
   ·rw [alj65] at h
    rw [ali19 hi, zeroRows_get z n _ omm, Nat.mod_eq_sub_mod hi]
theorem zeroRows_arr (z : Array Value) (m : Nat) (n : Nat) (hm : m = n * z.size) : ((Array.range m).map fun i => z[i % z.size]!).toList = zeroRows z.toList n := by
 subst hm
 apply ali20
 intro i
 rcases alj62 i (n * z.size) with hi | hi
 ·rw [zeroRows_get _ _ _ (by simpa using hi)]
  have hz : 0 < z.size := by
   rcases alj57 z.size with h | h
   ·rw [h] at hi; omega
   ·exact h
  have hlt : i % z.size < z.size := Nat.mod_lt _ hz
  simp [alj27 hi, hlt]
 ·rw [ali13 (by simpa using hi), ali13 (by rw [zeroRows_len]; simpa using hi)]
theorem zeroCells_eq (z : Array Value) (n : Nat) : (Builtin.zeroCells z n).toList = zeroRows z.toList n := zeroRows_arr z (n * z.size) n rfl
theorem appZero_run {t tx ty e : TypeId} {i : TypeInfo} {z : Value} {k k' : IntKind} {x : Int} {a : Option Addr} {l c : Nat} {w : World} (ht : P.underlying t = some (.slice e)) (hi : P.info? e = some i) (hz : i.zero = some z)
  (hzl : (cellsOf z).length = i.size) (hux : P.underlying tx = some (.int k')) (h0 : 0 ≤ x) (hx : IntKind.wrap .i64 x = x) (h48 : x * i.bytes ≤ 2 ^ 48) (hp : AppPre i.bytes i.size w ⟨a, l, c⟩ x.toNat (zeroRows (cellsOf z) x.toNat)) :
  ∃ (sl : Sl) (w' : World), AppRes e i.size w ⟨a, l, c⟩ x.toNat (zeroRows (cellsOf z) x.toNat) sl w' ∧ (Builtin.append_ #[t, tx] ty #[.slice a l c, .int k x]).run P w = .ok (sl) w' := by
 obtain ⟨n, hn⟩ : ∃ n, n = x.toNat := ⟨_, rfl⟩
 rw [← hn] at hp ⊢
 have hxn : x = (n : Int) := by omega
 have hlt : ¬ ((n : Int) < 0) := by omega
 have h48' : ¬ ((n : Int) * i.bytes > 2 ^ 48) := by rw [← hxn]; omega
 have hz6 : z.cells.size = i.size := by rw [cells_eq', ← hzl]; simp
 have hnews : ∀ w : World, (if n * i.size = 0 then (pure #[] : Sem (Array Value)) else do pure (Builtin.zeroCells (← zeroValue e).cells n)).run P w = .ok (zeroRows (cellsOf z) n).toArray w := by
  intro w
  split
  ·rename_i h0
   have : zeroRows (cellsOf z) n = [] := alj31.1 (by rw [zeroRows_len, hzl]; exact h0)
   rw [this]; rfl
  ·simp only [Sem.run_bind, zeroValue, typeInfo_run, hi, Result.andThen_ok, hz, Sem.run_pure]
   congr 1
   apply Array.ext'
   rw [zeroCells_eq, cells_eq]
 have hwx : IntKind.wrap .i64 (n : Int) = (n : Int) := by rw [← hxn]; exact hx
 rcases alj62 c (l + n) with hg | hroom
 ·obtain ⟨olds, h1, h2⟩ := hp.olds hg
  obtain ⟨h3, h4⟩ := hp.room hg
  dsimp only at h1 h2 h3 h4
  refine ⟨_, _, .grows hg olds (Builtin.zeroCells z.cells (grownCap w (l + n) c e - (l + n))).toList (grownCap w (l + n) c e) h1 h2 (grownCap_ge h4) ?_, ?_⟩
  ·have h5 := grownCap_ge (w := w) (c := c) (e := e) h4
   have h1' : olds.length = l * i.size := h1
   simp only [ali07, h1', hp.len, Builtin.zeroCells, Array.length_toList, Array.size_map, Array.size_range, hz6]
   rw [← alj56, ← alj56]
   congr 1; omega
  ·have hold : (Builtin.firstCells i.size l (.slice a l c)).run P w.drew = .ok olds.toArray w.drew := by
    cases a with
    | none =>
      have : olds = [] := by
       cases olds with
       | nil => rfl
       | cons v r => have := h2 0 v rfl; simp [ld, padd] at this
      subst this; exact run_firstCells_none w.drew i.size l l c
    | some a => exact run_firstCells_some w.drew i.size l a l c olds h1 (fun j u hj => by have := h2 j u hj; simpa [ld, padd] using this)
   have hn' : ¬ (l + n ≤ c) := by omega
   have h63' : ¬ (9223372036854775807 < ((l : Int) + (n : Int))) := by omega
   have h48b : ¬ (281474976710656 < Builtin.nextslicecap (l + n) c * i.bytes) := by omega
   have h48c : ¬ (281474976710656 < (n : Int) * i.bytes) := by omega
   have hnd := hnews w.drew
   rw [hxn]
   by_cases hc0 : n * i.size = 0
   ·rw [if_pos hc0] at hnd
    have he : zeroRows (cellsOf z) n = [] := by
     have := congrArg (fun r : Result (Array Value) => match r with | .ok v _ => v | _ => #[.bool true]) hnd
     simpa using this.symm
    simp [Builtin.append_, run_underlying ht, run_underlying hux, sizeOf, typeInfo, zeroValue, hi, hz, asInt, asIntOf, hwx, hn', h63', h48b, h48c, Question.forced, hc0, hlt, hold, newRow, grownCap, he]
    congr 2
    apply Array.ext'
    simp
   ·simp [Builtin.append_, run_underlying ht, run_underlying hux, sizeOf, typeInfo, zeroValue, hi, hz, asInt, asIntOf, hwx, hn', h63', h48b, h48c, Question.forced, hc0, hlt, hold, newRow, grownCap]
    congr 2
    apply Array.ext'
    simp [zeroCells_eq, cells_eq]
 ·refine ⟨_, _, .fits hroom, ?_⟩
  have hw := hp.fits hroom
  have hnd := hnews w
  have h48c : ¬ (281474976710656 < (n : Int) * i.bytes) := by omega
  rw [hxn]
  cases a with
  | none =>
    by_cases hc0 : n * i.size = 0
    ·simp [Builtin.append_, run_underlying ht, run_underlying hux, sizeOf, typeInfo, hi, hroom, asInt, asIntOf, hwx, hc0, hlt, h48c, padd, setP]
    ·simp [Builtin.append_, run_underlying ht, run_underlying hux, sizeOf, typeInfo, zeroValue, hi, hz, hroom, asInt, asIntOf, hwx, hc0, hlt, h48c, padd, setP]
  | some a =>
    have hst := storeCells_run (P := P) (a.add (l * i.size)) (zeroRows (cellsOf z) n) 0 w hp.one (fun j hj => by
     obtain ⟨a', e1, e2⟩ := hw j hj
     simp only [padd, alj69, Option.some.injEq] at e1
     subst e1; simpa using e2)
    by_cases hc0 : n * i.size = 0
    ·have he : zeroRows (cellsOf z) n = [] := alj31.1 (by rw [zeroRows_len, hzl]; exact hc0)
     rw [he] at hst
     simp [Builtin.append_, run_underlying ht, run_underlying hux, sizeOf, typeInfo, hi, hroom, asInt, asIntOf, hwx, hc0, hlt, h48c, padd, setP, he, hst]
    ·have hzc : (Builtin.zeroCells z.cells n).toList = zeroRows (cellsOf z) n := by rw [zeroCells_eq, cells_eq]
     simp [Builtin.append_, run_underlying ht, run_underlying hux, sizeOf, typeInfo, zeroValue, hi, hz, hroom, asInt, asIntOf, hwx, hc0, hlt, h48c, padd, setP, hzc, hst]
def isIntT (P : Program) (t : TypeId) : Bool := match P.underlying t with | some (.int _) => true | _ => false
theorem isIntT_true {t : TypeId} (h : isIntT P t = true) : ∃ k, P.underlying t = some (.int k) := by
 unfold isIntT at h; split at h
 ·rename_i k hu; exact ⟨k, hu⟩
 ·cases h
def appendOp (P : Program) (s : St) (d : Option Tmp) (t tx : TypeId) (sx x : SV) (K : St → Prop) : Prop :=
 match elemInfo P t with
 | none => False
 | some (e, i) => match i.zero with
   | none => False
   | some z => if (cellsOf z).length = i.size then
     match sx.conc s.kn with
     | .slice a n c =>
       let body (m : Nat) (news : List Value) : Prop := AppPre i.bytes i.size s.w ⟨a, n, c⟩ m news ∧
        ∀ (sl : Sl) (w' : World), AppRes e i.size s.w ⟨a, n, c⟩ m news sl w' → AndL (keepsC s.kn s.w w') (K ({ s with w := w' }.put d (.val (sl))))
       match x with
       | .sli k m => match srcOk P tx with
         | true => (match s.known k with
           | some kb => body m kb.cells
           | none => False)
         | false => False
       | .val (.slice b m _) => match srcOk P tx with
         | true => ∃ news, Rd s.w b news ∧ body m news
         | false => False
       | .val (.string st) => match isStr P tx with
         | true => body st.size (byteCells st)
         | false => False
       | .val (.int _ x) => match isIntT P tx with
         | true => (0 ≤ x ∧ IntKind.wrap .i64 x = x ∧ x * i.bytes ≤ 281474976710656) ∧ body x.toNat (zeroRows (cellsOf z) x.toNat)
         | false => False
       | _ => False
     | _ => False
     else False
theorem appRes_run {t tx ty e : TypeId} {i : TypeInfo} {z : Value} {x : Value} {n : Nat} {news : List Value} {a : Option Addr} {l c : Nat} {w : World} (ht : P.underlying t = some (.slice e)) (hi : P.info? e = some i) (hz : i.zero = some z)
  (hzl : (cellsOf z).length = i.size) (hs : Src P i.size tx x n news w) (hp : AppPre i.bytes i.size w ⟨a, l, c⟩ n news) :
  ∃ (sl : Sl) (w' : World), AppRes e i.size w ⟨a, l, c⟩ n news sl w' ∧ (Builtin.append_ #[t, tx] ty #[.slice a l c, x]).run P w = .ok (sl) w' := by
 rcases alj62 c (l + n) with hg | hroom
 ·obtain ⟨olds, h1, h2⟩ := hp.olds hg
  obtain ⟨h3, h4⟩ := hp.room hg
  dsimp only at h1 h2 h3 h4
  refine ⟨_, _, .grows hg olds (Builtin.zeroCells z.cells (grownCap w (l + n) c e - (l + n))).toList (grownCap w (l + n) c e) h1 h2 (grownCap_ge h4) ?_, ?_⟩
  ·have h5 := grownCap_ge (w := w) (c := c) (e := e) h4
   have h6 : z.cells.size = i.size := by rw [cells_eq', ← hzl]; simp
   have h1' : olds.length = l * i.size := h1
   simp only [ali07, h1', hp.len, Builtin.zeroCells, Array.length_toList, Array.size_map, Array.size_range, h6]
   rw [← alj56, ← alj56]
   congr 1; omega
  ·have hold : (Builtin.firstCells i.size l (.slice a l c)).run P w.drew = .ok olds.toArray w.drew := by
    cases a with
    | none =>
      have : olds = [] := by
       cases olds with
       | nil => rfl
       | cons v r => have := h2 0 v rfl; simp [ld, padd] at this
      subst this; exact run_firstCells_none w.drew i.size l l c
    | some a => exact run_firstCells_some w.drew i.size l a l c olds h1 (fun j u hj => by have := h2 j u hj; simpa [ld, padd] using this)
   rw [run_append_grow_src w t tx ty e i z ht hi hz a l c olds hold x n news hs hg h4 h3]
   congr 3
   apply Array.ext'
   simp
 ·refine ⟨_, _, .fits hroom, ?_⟩
  have hw := hp.fits hroom
  cases a with
  | none =>
    rcases hs.kind with ⟨e', hk⟩ | hk <;> simp [Builtin.append_, run_underlying ht, run_underlying hk, sizeOf, typeInfo, hi, hs.len, hroom, hs.cells, padd, setP]
  | some a =>
    have hst := storeCells_run (P := P) (a.add (l * i.size)) news 0 w hs.one (fun j hj => by
     obtain ⟨a', e1, e2⟩ := hw j hj
     simp only [padd, alj69, Option.some.injEq] at e1
     subst e1; simpa using e2)
    rcases hs.kind with ⟨e', hk⟩ | hk <;> simp [Builtin.append_, run_underlying ht, run_underlying hk, sizeOf, typeInfo, hi, hs.len, hroom, hs.cells, padd, setP, hst]
theorem elemInfo_some {t e : TypeId} {i : TypeInfo} (h : elemInfo P t = some (e, i)) : P.underlying t = some (.slice e) ∧ P.info? e = some i := by
 unfold elemInfo at h; split at h
 ·rename_i e' hu
  cases hi : P.info? e' with
  | none => simp [hi] at h
  | some j => simp [hi] at h; obtain ⟨rfl, rfl⟩ := h; exact ⟨hu, hi⟩
 ·cases h
theorem srcOk_true {t : TypeId} (h : srcOk P t = true) : ∃ e, P.underlying t = some (.slice e) := by
 unfold srcOk at h; split at h
 ·rename_i e hu; exact ⟨e, hu⟩
 ·cases h
theorem appendOp_post {d : Option Tmp} {t tx ty : TypeId} {sx x : SV} (hok : s.Ok) (h : appendOp P s d t tx sx x K) :
  ∃ v w', (Builtin.append_ #[t, tx] ty #[sx.conc s.kn, x.conc s.kn]).run P s.w = .ok v w' ∧ Post d s K (s.act.put d v) w' := by
 unfold appendOp at h
 split at h
 ·cases h
 rename_i e i he
 obtain ⟨ht, hi⟩ := elemInfo_some he
 split at h
 ·cases h
 rename_i z hz
 split at h
 case isFalse => cases h
 rename_i hzl
 split at h
 ·rename_i a l c hsx
  rw [hsx]
  simp only at h
  have main : ∀ (m : Nat) (news : List Value), Src P i.size tx (x.conc s.kn) m news s.w → AppPre i.bytes i.size s.w ⟨a, l, c⟩ m news →
    (∀ (sl : Sl) (w' : World), AppRes e i.size s.w ⟨a, l, c⟩ m news sl w' → AndL (keepsC s.kn s.w w') (K ({ s with w := w' }.put d (.val (sl))))) →
    ∃ v w', (Builtin.append_ #[t, tx] ty #[.slice a l c, x.conc s.kn]).run P s.w = .ok v w' ∧ Post d s K (s.act.put d v) w' := by
   intro m news hs hp hk
   obtain ⟨sl, w', h1, h2⟩ := appRes_run (ty := ty) ht hi hz hzl hs hp
   have h3 := hk sl w' h1
   rw [AndL_iff] at h3
   exact ⟨_, w', h2, post_ok h3.2 hok (Ok_world hok h3.1) rfl (Idx.refl _) trivial rfl rfl⟩
  split at h
  ·rename_i k m
   split at h
   ·rename_i hsrc
    split at h
    ·rename_i kb hkb
     obtain ⟨h1, h2⟩ := known_some hkb
     have hb := hok.blk k kb h1 h2
     obtain ⟨e', hu⟩ := srcOk_true hsrc
     refine main m kb.cells ?_ h.1 h.2
     have hidx : (s.kn.getD k default).idx = kb.idx := by simp [ali05, h1]
     rw [SV.conc, hidx]
     refine Src.ofSlice _ hu _ _ _ _ h.1.len (fun j u hj => ?_) h.1.one
     rw [add_loc, cell_of hb]; simpa using hj
    ·cases h
   ·cases h
  ·rename_i b m c'
   split at h
   ·rename_i hsrc
    obtain ⟨news, hr, h1, h2⟩ := h
    obtain ⟨e', hu⟩ := srcOk_true hsrc
    refine main m news ?_ h1 h2
    cases b with
    | none =>
      have hn : news = [] := by
       cases news with
       | nil => rfl
       | cons v r => have := hr 0 v rfl; simp [ld, padd] at this
      subst hn
      exact ⟨.inl ⟨e', hu⟩, fun _ => rfl, run_firstCells_none s.w i.size m m c', run_firstCells_none s.w.drew i.size m m c', h1.len, h1.one⟩
    | some b => exact Src.ofSlice _ hu _ _ _ _ h1.len (fun j u hj => by have := hr j u hj; simpa [ld, padd] using this) h1.one
   ·cases h
  ·rename_i st
   split at h
   ·rename_i hsrc
    have h1 := h.1.len
    rw [byteCells_length] at h1
    have hss : i.size = 1 ∨ st.size = 0 := by
     rcases alj57 st.size with h0 | h0
     ·exact .inr h0
     ·left
      have : st.size * i.size = st.size * 1 := by omega
      exact Nat.eq_of_mul_eq_mul_left h0 this
    refine main st.size _ ?_ h.1 h.2
    rcases hss with h3 | h3
    ·rw [h3]; exact Src.ofString s.w (isStr_true hsrc) st
    ·refine ⟨.inr (isStr_true hsrc), fun _ => rfl, ?_, ?_, h.1.len, h.1.one⟩ <;>
     ·have : byteCells st = [] := alj31.1 (by rw [byteCells_length, h3])
      rw [this]
      simp only [SV.conc, Builtin.firstCells, h3]
      simp
   ·cases h
  ·rename_i k x
   split at h
   ·rename_i hint
    obtain ⟨k', hux⟩ := isIntT_true hint
    obtain ⟨⟨g1, g2, g3⟩, hp, hk⟩ := h
    obtain ⟨sl, w', h1, h2⟩ := appZero_run (ty := ty) (k := k) ht hi hz hzl hux g1 g2 omm hp
    have h3 := hk sl w' h1
    rw [AndL_iff] at h3
    exact ⟨_, w', h2, post_ok h3.2 hok (Ok_world hok h3.1) rfl (Idx.refl _) trivial rfl rfl⟩
   ·cases h
  ·cases h
 ·cases h
def makeOp (P : Program) (s : St) (d : Option Tmp) (t : TypeId) (l c : Value) (K : St → Prop) : Prop :=
 match elemInfo P t, l, c with
 | some (e, i), .int _ l, .int _ c => match i.zero with
   | some z => if (cellsOf z).length = i.size then (0 ≤ l ∧ l ≤ c ∧ c ≤ 140737488355328 ∧ c * i.bytes ≤ 140737488355328) ∧
     ∀ w1, w1 = s.w.alloc (.cells (zeroRows (cellsOf z) c.toNat).toArray e) → K ({ s with w := w1 }.put d (.val (.slice (some ⟨s.w.heap.size, 0, none⟩) l.toNat c.toNat))) else False
   | none => False
 | _, _, _ => False
theorem makeOp_post {d : Option Tmp} {t : TypeId} {l c : Value} (hok : s.Ok) (h : makeOp P s d t l c K) : ∃ v w', (Instr.makeSlice t l c).run P s.w = .ok v w' ∧ Post d s K (s.act.put d v) w' := by
 unfold makeOp at h
 split at h
 ·rename_i e i _ l _ c he
  obtain ⟨ht, hi⟩ := elemInfo_some he
  split at h
  ·rename_i z hz
   split at h
   case isFalse => cases h
   rename_i hzl
   obtain ⟨⟨h0, h1, h2, h3⟩, hk⟩ := h
   have hk := hk _ rfl
   have hwl : IntKind.wrap .i64 l = l := by
    unfold IntKind.wrap; simp only [IntKind.bits, IntKind.signed]; simp only [alj05]; split <;> simp_all <;> omega
   have hwc : IntKind.wrap .i64 c = c := by
    unfold IntKind.wrap; simp only [IntKind.bits, IntKind.signed]; simp only [alj05]; split <;> simp_all <;> omega
   have hz6 : z.cells.size = i.size := by rw [cells_eq', ← hzl]; simp
   refine ⟨.slice (some ⟨s.w.heap.size, 0, none⟩) l.toNat c.toNat, s.w.alloc (.cells (zeroRows (cellsOf z) c.toNat).toArray e), ?_, ?_⟩
   ·have e1 : ¬ (c < 0) := by omega
    have e2 : ¬ (l < 0) := by omega
    have e3 : ¬ (c < l) := by omega
    have e4 : ¬ (281474976710656 < (i.bytes : Int) * c) := by rw [Int.mul_comm]; omega
    have e5 : ¬ (140737488355328 < c.toNat * i.bytes) := by
     have : ((c.toNat * i.bytes : Nat) : Int) = c * i.bytes := by rw [Int.natCast_mul]; congr 1; omega
     omega
    have hcells : ∀ zz : Array Value, (zz = z.cells ∨ c.toNat * i.size = 0) → ((Array.range (c.toNat * i.size)).map fun j => zz[j % zz.size]!) = (zeroRows (cellsOf z) c.toNat).toArray := by
     intro zz hh
     apply Array.ext'
     rcases hh with rfl | hh
     ·rw [zeroRows_arr z.cells _ c.toNat (by rw [hz6]), cells_eq]
     ·rw [hh]
      have : zeroRows (cellsOf z) c.toNat = [] := alj31.1 (by rw [zeroRows_len, hzl]; exact hh)
      simp [this]
    by_cases hc0 : c.toNat * i.size = 0
    ·have := hcells #[] (.inr hc0)
     simp only [Instr.makeSlice, asInt, asIntOf, Sem.run_bind, Sem.run_pure, underlying_run, ht, Result.andThen_ok, typeInfo_run, hi, hwl, hwc]
     simp [e1, e2, e3, e4, askRoom, roomBytes, e5, sizeOf, typeInfo_run, hi, newRow, newObj_run]
     simp [hc0] at this ⊢
     rw [this]
    ·have := hcells z.cells (.inl rfl)
     simp only [Instr.makeSlice, asInt, asIntOf, Sem.run_bind, Sem.run_pure, underlying_run, ht, Result.andThen_ok, typeInfo_run, hi, hwl, hwc]
     simp [e1, e2, e3, e4, askRoom, roomBytes, e5, sizeOf, typeInfo_run, hi, newRow, newObj_run, zeroValue, hz, hc0]
     simp [this]
   ·exact post_put (s1 := { s with w := s.w.alloc (.cells (zeroRows (cellsOf z) c.toNat).toArray e) }) (v := .val (.slice (some ⟨s.w.heap.size, 0, none⟩) l.toNat c.toNat)) hk hok rfl (Idx.refl _) (fun k kb h1 h2 => by
     rw [← hok.blk k kb h1 h2]; exact Below.heap_alloc _ _ _ (hok.lt k kb h1 h2)) hok.ne trivial rfl rfl
  ·cases h
 ·cases h
def copyOp (P : Program) (s : St) (d : Option Tmp) (ats : List TypeId) (x y : Value) (K : St → Prop) : Prop :=
 match ats, x, y with
 | t :: _, .slice a n _, .slice b m _ => match elemInfo P t with
   | some (_, i) => ∃ vs : List Value, (vs.length = min m n * i.size ∧ Rd s.w b vs ∧ One vs ∧ Wr s.w a vs.length) ∧
     AndL (apartC s.kn a) (∀ w1, w1 = setP s.w a vs → K ({ s with w := w1 }.put d (.val (.int .i64 ((min m n : Nat) : Int)))))
   | none => False
 | _, _, _ => False
theorem storeP_run {a : Addr} {vs : List Value} {w : World} (h1 : One vs) (hw : Wr w (some a) vs.length) : (storeCells a vs).run P w = .ok () (setP w (some a) vs) :=
 storeCells_run (P := P) a vs 0 w h1 fun j hj => by
  obtain ⟨a', e1, e2⟩ := hw j hj
  cases e1; simpa using e2
theorem apart_keeps {a : Option Addr} {vs : List Value} {w : World} {kn : List KB} (h : ∀ p ∈ apartC kn a, p) : ∀ p ∈ keepsC kn w (setP w a vs), p := by
 intro p hp
 obtain ⟨i, hi, rfl⟩ := ali06.1 hp
 have := h (pblk a ≠ some i) (ali06.2 ⟨i, hi, rfl⟩)
 cases a with
 | none => rfl
 | some a =>
   have hne : a.block ≠ i := fun e => this (by simp [pblk, e])
   have key : ∀ (vs : List Value) (j : Nat) (w : World), (setCs w a j vs).heap[i]? = w.heap[i]? := by
    intro vs
    induction vs with
    | nil => intro j w; rfl
    | cons v r ih =>
      intro j w
      show (setCs _ a (j + 1) r).heap[i]? = _
      rw [ih]
      have hb : (a.add j).block = a.block := by unfold Addr.add; split <;> rfl
      simp only [World.setCell, Array.getElem?_modify, hb, if_neg hne]
   exact key vs 0 w
theorem copyOp_post {d : Option Tmp} {ats : Array TypeId} {ty : TypeId} {x y : Value} (hok : s.Ok) (h : copyOp P s d ats.toList x y K) : ∃ v w', (Builtin.copy_ ats ty #[x, y]).run P s.w = .ok v w' ∧ Post d s K (s.act.put d v) w' := by
 unfold copyOp at h
 split at h
 ·rename_i t r a n c b m c' hat
  have ha : ats[0]? = some t := by rw [← Array.getElem?_toList, hat]; rfl
  split at h
  ·rename_i e i he
   obtain ⟨ht, hi⟩ := elemInfo_some he
   obtain ⟨vs, ⟨h1, h2, h3, h4⟩, h5⟩ := h
   rw [AndL_iff] at h5
   have hk := h5.2 _ rfl
   have hload : (Builtin.firstCells i.size (min m n) (.slice b m c')).run P s.w = .ok vs.toArray s.w := by
    cases b with
    | none =>
      have : vs = [] := by
       cases vs with
       | nil => rfl
       | cons v r => have := h2 0 v rfl; simp [ld, padd] at this
      subst this; exact run_firstCells_none s.w i.size _ m c'
    | some b => exact run_firstCells_some s.w i.size (min m n) b m c' vs h1 (fun j u hj => by have := h2 j u hj; simpa [ld, padd] using this)
   refine ⟨.int .i64 ((min m n : Nat) : Int), setP s.w a vs, ?_, ?_⟩
   ·cases a with
    | none =>
      have : vs = [] := by
       cases vs with
       | nil => rfl
       | cons v r => obtain ⟨a', e1, _⟩ := h4 0 smm; cases e1
      subst this
      simp [Builtin.copy_, ha, run_underlying ht, Builtin.lenOf, sizeOf, typeInfo_run, hi, hload, goInt, setP]
    | some a =>
      have hst := storeP_run (P := P) h3 h4
      simp [Builtin.copy_, ha, run_underlying ht, Builtin.lenOf, sizeOf, typeInfo_run, hi, hload, goInt, hst]
   ·exact post_ok (v := .val (.int .i64 ((min m n : Nat) : Int))) hk hok (Ok_world hok (apart_keeps h5.1)) rfl (Idx.refl _) trivial rfl rfl
  ·cases h
 ·cases h
def clearOp (P : Program) (s : St) (d : Option Tmp) (ats : List TypeId) (x : Value) (K : St → Prop) : Prop :=
 match ats, x with
 | t :: _, .slice a n _ => match elemInfo P t with
   | some (_, i) => match i.zero with
     | some z => AndL ((cellsOf z).flatMap oneC) (Wr s.w a (n * (cellsOf z).length) ∧ AndL (apartC s.kn a) (∀ w1, w1 = setP s.w a (zeroRows (cellsOf z) n) → K ({ s with w := w1 }.put d (.val (.tuple #[])))))
     | none => False
   | none => False
 | _, _ => False
theorem clearOp_post {d : Option Tmp} {ats : Array TypeId} {ty : TypeId} {x : Value} (hok : s.Ok) (h : clearOp P s d ats.toList x K) : ∃ v w', (Builtin.clear_ ats ty #[x]).run P s.w = .ok v w' ∧ Post d s K (s.act.put d v) w' := by
 unfold clearOp at h
 split at h
 ·rename_i t r a n c hat
  have ha : ats[0]? = some t := by rw [← Array.getElem?_toList, hat]; rfl
  split at h
  ·rename_i e i he
   obtain ⟨ht, hi⟩ := elemInfo_some he
   split at h
   ·rename_i z hz
    rw [AndL_iff] at h
    obtain ⟨h1, h4, h5⟩ := h
    have h1 := oneC_of h1
    rw [AndL_iff] at h5
    have hk := h5.2 _ rfl
    have hone : One (zeroRows (cellsOf z) n) := by
     intro u hu
     obtain ⟨l, hl, hul⟩ := List.mem_flatten.1 hu
     rw [(ali48.1 hl).2] at hul
     exact h1 u hul
    refine ⟨.tuple #[], setP s.w a (zeroRows (cellsOf z) n), ?_, ?_⟩
    ·cases a with
     | none => simp [Builtin.clear_, ha, run_underlying ht, setP]
     | some a =>
       have hst := storeP_run (P := P) (w := s.w) (a := a) hone (by rw [zeroRows_len]; exact h4)
       cases n with
       | zero => simp [Builtin.clear_, ha, run_underlying ht, setP, zeroRows, setCs]
       | succ n =>
         have hzc : (Builtin.zeroCells z.cells (n + 1)).toList = zeroRows (cellsOf z) (n + 1) := by rw [zeroCells_eq, cells_eq]
         simp [Builtin.clear_, ha, run_underlying ht, zeroValue, typeInfo_run, hi, hz, hzc, hst]
    ·exact post_ok (v := .val (.tuple #[])) hk hok (Ok_world hok (apart_keeps h5.1)) rfl (Idx.refl _) trivial rfl rfl
   ·cases h
  ·cases h
 ·cases h
end
end Go.Vc
