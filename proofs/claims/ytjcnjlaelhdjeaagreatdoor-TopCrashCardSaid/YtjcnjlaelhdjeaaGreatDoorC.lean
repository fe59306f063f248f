import Derived.Test.YtjcnjlaelhdjeaaGreatDoorB
set_option linter.all false
namespace Go
open Go.RowKit
def Oper.wpY (P : Program) (o : Oper) (a : Act) (w : World) (next : Act → World → Prop) (Q : Exit → Act → World → Prop) : Prop :=
 (∀ c, o.op ≠ .defer c) ∧ o.uponIn Fence.wide 0 P a next Q ((execOp a.eval o).run P w)
theorem Oper.wpY_mono {P : Program} {o : Oper} {a : Act} {w : World} {Q : Exit → Act → World → Prop} {K K' : Act → World → Prop} (h : ∀ a w, K a w → K' a w) (hh : o.wpY P a w K Q) : o.wpY P a w K' Q := by
 refine ⟨hh.1, ?_⟩
 have hh := hh.2
 generalize (execOp a.eval o).run P w = r at *
 cases r with
 | ok x w' =>
   cases x <;> simp only [Oper.uponIn] at hh ⊢ <;>
    first
     | exact h _ _ hh
     | exact ⟨hh.1, CallsIn.mono hh.2 (fun e w'' he => by cases e <;> first | exact h _ _ he | exact he)⟩
     | exact ⟨hh.1, RowsIn.mono hh.2 (fun _ _ he => h _ _ he)⟩
     | exact ⟨hh.1, RoundIn.mono hh.2 (fun e w'' he => by cases e <;> first | exact h _ _ he | exact he)⟩
 | halt x w' => cases x <;> simp only [Oper.uponIn] at hh ⊢ <;> exact hh
end Go
namespace Go.Vc
open Go Go.RowKit
class PQ where
 q : Option (List PanicEntry → World → Prop)
def panE [PQ] (df : List Nat) (e : Ending) (w' : World) (A : Prop) : Prop :=
 match PQ.q with
 | none => A
 | some q => match e with
   | .panicked c => (match df with | [] => q c w' | _ => False)
   | _ => A
def PQok [PQ] (Q : Exit → Act → World → Prop) : Prop := ∀ q, PQ.q = some q → ∀ c a w, a.defers = [] → q c w → Q (.panic c) a w
theorem panE_or [PQ] {df : List Nat} {e : Ending} {w' : World} {A : Prop} (h : panE df e w' A) : A ∨ ∃ q c, PQ.q = some q ∧ e = .panicked c ∧ df = [] ∧ q c w' := by
 unfold panE at h
 split at h
 ·exact .inl h
 ·rename_i q hq
  split at h
  ·split at h
   ·exact .inr ⟨q, _, hq, rfl, rfl, h⟩
   ·exact h.elim
  ·exact .inl h
section
variable {P : Program} {s : St} {o : Oper} {K : St → Prop} {Q : Exit → Act → World → Prop}
def NoNG (P : Program) : Prop := ∀ (f : FuncId) fn, P.funcs[f]? = some fn → fn.name ≠ "runtime.NumGoroutine"
def hasBody (P : Program) (f : FuncId) : Bool := match P.funcs[f]? with | some fn => (match fn.body with | some _ => true | none => false) | none => false
def YieldC (P : Program) (l : Nat) (args : List Value) (w : World) (R : Ending → World → Prop) : Prop :=
 ∃ fn tmps assign body, (Instr.yield l args.toArray).run P w = .ok (.round l fn tmps assign body) w ∧ RoundIn Fence.wide 0 P l fn tmps assign body w R
def IsExt (P : Program) (f : FuncId) (e : Array Value → Sem Value) : Prop :=
 ∃ fn, P.funcs[f]? = some fn ∧ fn.body.isNone = true ∧ Extern.findNext fn = none ∧ Extern.find fn = some e
def ExtC (P : Program) (f : FuncId) (args : List Value) (w : World) (R : Ending → World → Prop) : Prop :=
 ∃ e, IsExt P f e ∧ ∃ v w', (e args.toArray).run P w = .ok v w' ∧ R (.returned v) w'
def callV (P : Program) (fv : Value) (args : List Value) (w : World) (R : Ending → World → Prop) : Prop :=
 match fv with
 | .func (.func f) first cap => match hasBody P f with
   | true => Calls P f (first.toList ++ args ++ cap.toList).toArray w R
   | false => ExtC P f (first.toList ++ args ++ cap.toList) w R
 | .func (.yield l) first cap => (first = #[] ∧ cap = #[]) ∧ YieldC P l args w R
 | _ => False
def resT (P : Program) (t : TypeId) : T2 :=
 match P.underlying t with
 | some (.tuple ts) => .tup (ts.toList.map (t1Of P))
 | _ => .one (t1Of P t)
def callOp [PQ] (P : Program) (s : St) (d : Option Tmp) (ty : TypeId) (fv : Value) (args : List SV) (K : St → Prop) : Prop :=
 callV P fv (args.map (SV.conc s.kn)) s.w fun e w' => panE s.df e w' ((resT P ty).ex fun v => e = .returned v ∧
  AndL (keepsC (s.kill args).kn s.w w') (K ({ s.kill args with w := w' }.put d (.val v))))
theorem wp_call [PQ] (hQ : PQok Q) {dst : Option Tmp} {ty : TypeId} {pos : String} {after : Array Edge} {guard : Option (Nat × Bool)} {x : Operand} {args : Array Operand} {ats : Array TypeId} (hP : NoNG P) (hok : s.Ok)
  (hny : ∀ l f c, s.ev x ≠ .func (.yield l) f c) (h : callOp P s dst ty (s.ev x) (args.toList.map s.sv) K) :
  (Oper.mk dst (.call ⟨.value x, args, ats⟩) ty pos after guard).wp P s.act s.w (Post dst s K) Q := by
 unfold callOp callV at h
 split at h
 ·rename_i f first cap hx
  split at h
  ·rename_i hb
   unfold hasBody at hb
   split at hb
   ·rename_i fn hf
    split at hb
    ·rename_i body hbody
     have hrun : (execOp s.ev (Oper.mk dst (.call ⟨.value x, args, ats⟩) ty pos after guard)).run P s.w = .ok (.enter f (first ++ args.map s.ev ++ cap)) s.w := by
      have hn := hP f fn hf
      simp only [execOp, resolve, Deferred.ofValue, hx, invoke, callFunc, Sem.run_bind, Sem.run_pure, Result.andThen_ok]
      simp [program, Sem.run, hf, hn, hbody]
     unfold Oper.wp
     rw [St.eval_eq, hrun, Oper.upon_enter]
     have harg : (first.toList ++ (args.toList.map s.sv |>.map (SV.conc s.kn)) ++ cap.toList).toArray = first ++ args.map s.ev ++ cap := by
      apply Array.ext'
      simp [St.ev]
     rw [harg] at h
     refine h.mono fun e w' hr => ?_
     rcases panE_or hr with hr | ⟨q, c, hq, rfl, hdf, hc⟩
     case inr => exact hQ q hq c _ _ (by unfold St.act; rw [hdf]; rfl) hc
     obtain ⟨v, he, h1⟩ := T2.ex_out hr
     subst he
     rw [AndL_iff] at h1
     obtain ⟨k1, k2, k3, k4, k5⟩ := kill_Ok (args.toList.map s.sv) hok
     have hok' := Ok_world k1 (w' := w') (by rw [k3]; exact h1.1)
     exact post_ok h1.2 hok hok' k2 k4 trivial rfl rfl
    ·cases hb
   ·cases hb
  ·obtain ⟨e, ⟨fn, hf, hb, hn1, hn2⟩, v, w', hrun, hr⟩ := h
   have hname := hP f fn hf
   have harg : (first.toList ++ (args.toList.map s.sv |>.map (SV.conc s.kn)) ++ cap.toList).toArray = first ++ args.map s.ev ++ cap := by
    apply Array.ext'
    simp [St.ev]
   rw [harg] at hrun
   have hex := run_callFunc_extern hf (by simpa using hname) hb hn1 hn2 (first ++ args.map s.ev ++ cap) s.w
   rw [hrun] at hex
   have hgo : (execOp s.ev (Oper.mk dst (.call ⟨.value x, args, ats⟩) ty pos after guard)).run P s.w = .ok (.value v) w' := by
    simp only [execOp, resolve, Deferred.ofValue, hx, invoke, Sem.run_bind, Sem.run_pure, Result.andThen_ok]
    exact hex
   unfold Oper.wp
   rw [St.eval_eq, hgo]
   rcases panE_or hr with hr | ⟨q, c, hq, he, hdf, hc⟩
   case inr => cases he
   obtain ⟨v', he, h1⟩ := T2.ex_out hr
   cases he
   rw [AndL_iff] at h1
   obtain ⟨k1, k2, k3, k4, k5⟩ := kill_Ok (args.toList.map s.sv) hok
   have hok' := Ok_world k1 (w' := w') (by rw [k3]; exact h1.1)
   exact post_ok (v := .val v) h1.2 hok hok' k2 k4 trivial rfl rfl
 ·rename_i l f c hx; exact absurd hx (hny l f c)
 ·cases h
theorem wide_depth {n : Nat} (h : Fence.wide.depth.isSome = true) : 1 ≤ n := by simp [Fence.wide] at h
inductive Wd : Fence → Prop
 | out : Wd Fence.wide
 | round (l : Nat) : Wd (Fence.wide.inRound l)
theorem Wd.fn {F : Fence} (h : Wd F) (f : FuncId) : F.fn f := by cases h <;> trivial
theorem Wd.depth {F : Fence} (h : Wd F) : F.depth = none := by cases h <;> rfl
theorem Wd.calls {F : Fence} (h : Wd F) {n : Nat} {f : FuncId} {args : Array Value} {w : World} {R : Ending → World → Prop} : CallsIn F n P f args w R ↔ Calls P f args w R := by
 cases h with
 | out => exact callsIn_wide
 | round l => exact callsIn_wide
theorem Wd.roundIn {F : Fence} (h : Wd F) {n : Nat} {l : Nat} {f : FuncId} {tmps : Array Value} {assign body : Code} {w : World} {R : Ending → World → Prop} (hr : RoundIn Fence.wide 0 P l f tmps assign body w R) :
  RoundIn F n P l f tmps assign body w R := by
 cases h with
 | out => exact ⟨trivial, fun c cs _ => hr.2 c cs (room_wide _)⟩
 | round l' => exact ⟨trivial, fun c cs _ => hr.2 c cs (room_wide _)⟩
theorem Wd.rowsIn {F : Fence} (h : Wd F) {n : Nat} {row : String} {args : Array Value} {w : World} {R : Value → World → Prop} (hr : RowsIn Fence.wide 0 P row args w R) :
  RowsIn F n P row args w R := by
 cases h with
 | out => exact fun c cs _ => hr c cs (room_wide _)
 | round l' => exact fun c cs _ => hr c cs (room_wide _)
theorem wpY_of_wp {o : Oper} {a : Act} {w : World} {Q : Exit → Act → World → Prop} {K : Act → World → Prop} (hd : ∀ c, o.op ≠ .defer c) (hh : o.wp P a w K Q) : o.wpY P a w K Q := by
 refine ⟨hd, ?_⟩
 unfold Oper.wp at hh
 generalize (execOp a.eval o).run P w = r at *
 cases r with
 | ok x w' =>
   cases x <;> simp only [Oper.upon, Oper.uponIn] at hh ⊢ <;>
    first
     | exact hh
     | exact ⟨wide_depth, callsIn_wide.2 hh⟩
     | exact ⟨wide_depth, fun c cs _ => by
       obtain ⟨v, w', h1, h2⟩ := hh c cs
       exact ⟨v, w', h1, stepsIn_wide.2 h2⟩⟩
 | halt x w' => cases x <;> simp only [Oper.upon, Oper.uponIn] at hh ⊢ <;> exact hh
theorem wpIn_of_wpY {F : Fence} {n : Nat} (hF : Wd F) {o : Oper} {a : Act} {w : World} {Q : Exit → Act → World → Prop} {K : Act → World → Prop} (hh : o.wpY P a w K Q) : o.wpIn F n P a w K Q := by
 refine ⟨fun f _ => hF.fn f, ?_⟩
 rw [Oper.semAt_eq _ _ _ hh.1]
 have hh := hh.2
 have hd : F.depth.isSome = true → 1 ≤ n := fun h => by rw [hF.depth] at h; cases h
 generalize (execOp a.eval o).run P w = r at *
 cases r with
 | ok x w' =>
   cases x <;> simp only [Oper.uponIn] at hh ⊢ <;>
    first
     | exact hh
     | exact ⟨hd, hF.calls.2 (callsIn_wide.1 hh.2)⟩
     | exact ⟨hd, hF.rowsIn hh.2⟩
     | exact ⟨hd, hF.roundIn hh.2⟩
 | halt x w' => cases x <;> simp only [Oper.uponIn] at hh ⊢ <;> exact hh
theorem wpY_yield [PQ] (hQ : PQok Q) {dst : Option Tmp} {ty : TypeId} {pos : String} {after : Array Edge} {guard : Option (Nat × Bool)} {x : Operand} {args : Array Operand} {ats : Array TypeId} (hok : s.Ok)
  {l : Nat} {f c : Array Value} (hx : s.ev x = .func (.yield l) f c) (h : callOp P s dst ty (s.ev x) (args.toList.map s.sv) K) :
  (Oper.mk dst (.call ⟨.value x, args, ats⟩) ty pos after guard).wpY P s.act s.w (Post dst s K) Q := by
 refine ⟨fun c h => (by cases h), ?_⟩
 rw [hx] at h
 unfold callOp callV at h
 obtain ⟨⟨rfl, rfl⟩, fn, tmps, assign, body, hy, hr⟩ := h
 have hrun : (execOp s.ev (Oper.mk dst (.call ⟨.value x, args, ats⟩) ty pos after guard)).run P s.w = .ok (.round l fn tmps assign body) s.w := by
  have ha : args.map s.ev = ((args.toList.map s.sv).map (SV.conc s.kn)).toArray := by
   apply Array.ext'
   simp [St.ev]
  simp only [execOp, resolve, Deferred.ofValue, hx, invoke, Sem.run_bind, Sem.run_pure, Result.andThen_ok]
  rw [ha]
  simpa using hy
 rw [St.eval_eq, hrun, Oper.uponIn_round]
 refine ⟨wide_depth, hr.mono fun e w' hr => ?_⟩
 rcases panE_or hr with hr | ⟨q, c, hq, rfl, hdf, hc⟩
 case inr => exact hQ q hq c _ _ (by unfold St.act; rw [hdf]; rfl) hc
 obtain ⟨v, he, h1⟩ := T2.ex_out hr
 subst he
 rw [AndL_iff] at h1
 obtain ⟨k1, k2, k3, k4, k5⟩ := kill_Ok (args.toList.map s.sv) hok
 have hok' := Ok_world k1 (w' := w') (by rw [k3]; exact h1.1)
 exact post_ok h1.2 hok hok' k2 k4 trivial rfl rfl
structure Rec (l : Nat) (w w' : World) : Prop where
 same : ∀ i, i ≠ l → w'.heap[i]? = w.heap[i]?
 size : w'.heap.size = w.heap.size
 os : w'.os = w.os
 tape : w'.tape = w.tape
 output : w'.output = w.output
theorem Rec.below {l : Nat} {w w' : World} (h : Rec l w w') {B : Nat} (hB : B ≤ l) : Below B w w' := ⟨h.os, h.tape, h.output, Nat.le_of_eq h.size.symm, fun k hk => h.same k omm⟩
theorem Rec.putObj (w : World) (l : Nat) (o : Obj) : Rec l w (w.putObj l o) := ⟨fun i hi => World.putObj_heap_other hi, by simp, rfl, rfl, rfl⟩
section
variable {P : Program} {s : St} {K : St → Prop}
theorem Ok_rec {s : St} {D : Nat} {w' : World} (hok : s.Ok) (hD : ∀ c t f, s.w.heap[D]? ≠ some (.cells c t f)) (h : Rec D s.w w') : ({ s with w := w' } : St).Ok := by
 refine ⟨fun k kb h1 h2 => ?_, hok.ne, hok.locs⟩
 have := hok.blk k kb h1 h2
 rw [← this]
 exact h.same _ fun e => hD _ _ _ (e ▸ this)
structure KeyOk (P : Program) (kt : TypeId) (G : Value → Prop) : Prop where
 eq : ∀ x y, G x → G y → ∃ b, eqV P 20 kt x y = some b ∧ (b = true ↔ x = y)
 check : ∀ x, G x → ∀ b w, (Instr.checkKey b 10000 kt x).run P w = .ok () w
 bits : ∀ x, G x → Instr.sameBits 10000 x x = true
def MapIs (G : Value → Prop) (w : World) (m : Option Nat) (kvs : List (Value × Value)) : Prop :=
 match m with
 | none => kvs = []
 | some r => ∃ es clock, w.heap[r]? = some (.map es clock) ∧ es.toList.map (fun e => (e.key, e.val)) = kvs ∧ (∀ e ∈ kvs, G e.1) ∧ (kvs.map (·.1)).Nodup ∧
   (es.toList.map (·.born)).Pairwise (· < ·) ∧ ∀ e ∈ es.toList, e.born < clock
def Look (kvs : List (Value × Value)) (k z v : Value) (b : Bool) : Prop :=
 (b = true ∧ (k, v) ∈ kvs) ∨ (b = false ∧ v = z ∧ ∀ e ∈ kvs, e.1 ≠ k)
open Classical in
noncomputable def insL (kvs : List (Value × Value)) (k v : Value) : List (Value × Value) :=
 if ∃ e ∈ kvs, e.1 = k then kvs.map (fun e => if e.1 = k then (e.1, v) else e) else kvs ++ [(k, v)]
open Classical in
noncomputable def delL (kvs : List (Value × Value)) (k : Value) : List (Value × Value) := kvs.filter fun e => ¬ e.1 = k
theorem bytes_eq (a b : ByteArray) : (a == b) = true ↔ a = b := by
 cases a; cases b
 show ByteArray.beq _ _ = true ↔ _
 simp [ByteArray.beq]
theorem sameNow_spec {d : TypeDesc} {x y : Value} {b : Bool} (h : Instr.sameNow d x y = some b) : b = true ↔ x = y := by
 unfold Instr.sameNow at h
 split at h
 ·split at h
  ·rename_i e; subst e; cases h; simp
  ·cases h
 ·cases h; simp only [Value.string.injEq]; exact bytes_eq _ _
 ·cases h; simp
 ·cases h
theorem findNow_spec {d : TypeDesc} {k : Value} : ∀ (es : List MapEntry) (i : Nat) (r : Option (Nat × Value)), Instr.findNow d k es i = some r →
  match r with
  | none => ∀ e ∈ es, e.key ≠ k
  | some (j, v) => ∃ m e, j = i + m ∧ es[m]? = some e ∧ e.key = k ∧ e.val = v
 | [], i, r, h => by unfold Instr.findNow at h; cases h; simp
 | e :: es, i, r, h => by
   unfold Instr.findNow at h
   split at h
   ·rename_i hs
    cases h
    exact ⟨0, e, rfl, rfl, ((sameNow_spec hs).1 rfl).symm, rfl⟩
   ·rename_i hs
    have ih := findNow_spec es (i + 1) r h
    have hne : e.key ≠ k := fun e => by have := (sameNow_spec hs).2 e.symm; cases this
    cases r with
    | none =>
      intro e' he'
      rcases ali16.1 he' with rfl | he'
      ·exact hne
      ·exact ih e' he'
    | some p =>
      obtain ⟨m, e', h1, h2, h3, h4⟩ := ih
      exact ⟨m + 1, e', by omega, by simpa using h2, h3, h4⟩
   ·cases h
theorem findAsking_run {kt : TypeId} {G : Value → Prop} (hk : KeyOk P kt G) {k : Value} (hkG : G k) : ∀ (es : List MapEntry) (i : Nat) (w : World), (∀ e ∈ es, G e.key) →
  ∃ r, (Instr.findAsking kt k es i).run P w = .ok r w ∧ match r with
  | none => ∀ e ∈ es, e.key ≠ k
  | some (j, v) => ∃ m e, j = i + m ∧ es[m]? = some e ∧ e.key = k ∧ e.val = v
 | [], i, w, _ => ⟨none, rfl, by simp⟩
 | e :: es, i, w, hG => by
   obtain ⟨b, h1, h2⟩ := hk.eq k e.key hkG (hG e (.head _))
   have h3 : (Op.equal kt k e.key).run P w = .ok b w := equal_nil (eqV_run 20 kt _ _ _ h1 _ omm w)
   cases b with
   | true => exact ⟨some (i, e.val), by unfold Instr.findAsking; rw [Sem.run_bind, h3]; rfl, 0, e, rfl, rfl, (h2.1 rfl).symm, rfl⟩
   | false =>
     obtain ⟨r, g1, g2⟩ := findAsking_run hk hkG es (i + 1) w fun e he => hG e (.tail _ he)
     have hne : e.key ≠ k := fun e => by have := h2.2 e.symm; cases this
     refine ⟨r, by unfold Instr.findAsking; rw [Sem.run_bind, h3]; exact g1, ?_⟩
     cases r with
     | none =>
       intro e' he'
       rcases ali16.1 he' with rfl | he'
       ·exact hne
       ·exact g2 e' he'
     | some p =>
       obtain ⟨m, e', h1, h2, h3, h4⟩ := g2
       exact ⟨m + 1, e', by omega, by simpa using h2, h3, h4⟩
theorem findKey_run {kt : TypeId} {G : Value → Prop} (hk : KeyOk P kt G) (hu : (P.underlying kt).isSome = true) {k : Value} (hkG : G k) (es : List MapEntry) (w : World) (hG : ∀ e ∈ es, G e.key) :
  ∃ r, (Instr.findKey kt k es).run P w = .ok r w ∧ match r with
  | none => ∀ e ∈ es, e.key ≠ k
  | some (j, v) => ∃ e, es[j]? = some e ∧ e.key = k ∧ e.val = v := by
 obtain ⟨d, hd⟩ := ali29.1 hu
 have key : ∃ r, (Instr.findKey kt k es).run P w = .ok r w ∧ match r with
  | none => ∀ e ∈ es, e.key ≠ k
  | some (j, v) => ∃ m e, j = 0 + m ∧ es[m]? = some e ∧ e.key = k ∧ e.val = v := by
  unfold Instr.findKey
  simp only [Sem.run_bind, underlying_run, hd, Result.andThen_ok]
  cases hf : Instr.findNow d k es 0 with
  | some r => exact ⟨r, rfl, findNow_spec es 0 r hf⟩
  | none => exact findAsking_run hk hkG es 0 w hG
 obtain ⟨r, h1, h2⟩ := key
 refine ⟨r, h1, ?_⟩
 cases r with
 | none => exact h2
 | some p =>
   obtain ⟨m, e, g1, g2, g3, g4⟩ := h2
   exact ⟨e, by rw [g1, ali37]; exact g2, g3, g4⟩
theorem getMap_run {r : Nat} {es : Array MapEntry} {c : Nat} {w : World} (h : w.heap[r]? = some (.map es c)) : (getObj r).run P w = .ok (.map es c) w := by
 simp [getObj, Sem.run, h]
theorem setMap_run {r : Nat} {es es' : Array MapEntry} {c c' : Nat} {w : World} (h : w.heap[r]? = some (.map es c)) : (setObj r (.map es' c')).run P w = .ok () (w.putObj r (.map es' c')) := by
 simp [setObj, Sem.run, h, World.putObj]
theorem nodup_inj {α β : Type} {f : α → β} : ∀ {l : List α} {x y : α}, (l.map f).Nodup → x ∈ l → y ∈ l → f x = f y → x = y
 | [], _, _, _, h, _, _ => by cases h
 | a :: l, x, y, hn, hx, hy, e => by
   rw [ali17, alj48] at hn
   rcases ali16.1 hx with rfl | hx
   ·rcases ali16.1 hy with e2 | hy
    ·exact e2.symm
    ·exact absurd (ali06.2 ⟨y, hy, e.symm⟩) hn.1
   ·rcases ali16.1 hy with e2 | hy
    ·rw [e2] at e
     exact absurd (ali06.2 ⟨x, hx, e⟩) hn.1
    ·exact nodup_inj hn.2 hx hy e
def mapTy (P : Program) (t : TypeId) : Option (TypeId × TypeId × Value) := match P.underlying t with
 | some (.map kt et) => if (P.underlying kt).isSome && (P.underlying et).isSome then ((P.info? et).bind (·.zero)).map fun z => (kt, et, z) else none
 | _ => none
theorem mapTy_some {t kt et : TypeId} {z : Value} (h : mapTy P t = some (kt, et, z)) : P.underlying t = some (.map kt et) ∧ (P.underlying kt).isSome = true ∧ (P.underlying et).isSome = true ∧ ∀ w, (zeroValue et).run P w = .ok z w := by
 unfold mapTy at h
 split at h
 ·rename_i kt' et' hu
  split at h
  ·rename_i hb
   rw [ali39] at hb
   cases hi : P.info? et' with
   | none => simp [hi] at h
   | some i =>
     cases hz : i.zero with
     | none => simp [hi, hz] at h
     | some z' =>
       simp [hi, hz] at h
       obtain ⟨rfl, rfl, rfl⟩ := h
       exact ⟨hu, hb.1, hb.2, fun w => by simp [zeroValue, typeInfo_run, hi, hz]⟩
  ·cases h
 ·cases h
theorem checkKey_run {kt : TypeId} {G : Value → Prop} (hk : KeyOk P kt G) {k : Value} (h : G k) (b : Bool) (w : World) : (Instr.checkKey b 10000 kt k).run P w = .ok () w := hk.check k h b w
theorem find_look {kt : TypeId} {z k : Value} {G : Value → Prop} {kvs : List (Value × Value)} {w : World} (hk : KeyOk P kt G) (hu : (P.underlying kt).isSome = true) (hkG : G k) {es : List MapEntry}
  (he : es.map (fun e => (e.key, e.val)) = kvs) (hG : ∀ e ∈ kvs, G e.1) (hnd : (kvs.map (·.1)).Nodup) {v : Value} {b : Bool} (hl : Look kvs k z v b) :
  ∃ r, (Instr.findKey kt k es).run P w = .ok r w ∧ ((r = none ∧ b = false ∧ v = z) ∨ ∃ j, r = some (j, v) ∧ b = true) := by
 have hGe : ∀ e ∈ es, G e.key := fun e hm => hG (e.key, e.val) (by rw [← he]; exact ali06.2 ⟨e, hm, rfl⟩)
 obtain ⟨rr, g1, g2⟩ := findKey_run hk hu hkG es w hGe
 refine ⟨rr, g1, ?_⟩
 cases rr with
 | none =>
   rcases hl with ⟨rfl, hmem⟩ | ⟨rfl, rfl, _⟩
   ·rw [← he] at hmem
    obtain ⟨e, he1, he2⟩ := ali06.1 hmem
    exact absurd (congrArg Prod.fst he2) (g2 e he1)
   ·exact .inl ⟨rfl, rfl, rfl⟩
 | some p =>
   obtain ⟨j, v'⟩ := p
   obtain ⟨e, g3, g4, g5⟩ := g2
   have hme : e ∈ es := ali00 g3
   rcases hl with ⟨rfl, hmem⟩ | ⟨rfl, rfl, hno⟩
   ·rw [← he] at hmem
    obtain ⟨e', he1, he2⟩ := ali06.1 hmem
    have hkk : e'.key = e.key := (congrArg Prod.fst he2).trans g4.symm
    have hv : e'.val = v := congrArg Prod.snd he2
    have : e' = e := by
     rw [← he, alj35] at hnd
     exact nodup_inj hnd he1 hme hkk
    subst this
    rw [hv] at g5
    subst g5
    exact .inr ⟨j, rfl, rfl⟩
   ·exact absurd g4 (hno (e.key, e.val) (by rw [← he]; exact ali06.2 ⟨e, hme, rfl⟩))
theorem lookup_run {t kt et : TypeId} {z k : Value} {G : Value → Prop} {r : Option Nat} {kvs : List (Value × Value)} {w : World} (ht : mapTy P t = some (kt, et, z)) (hk : KeyOk P kt G) (hm : MapIs G w r kvs) (hkG : G k) (ok : Bool) {v : Value} {b : Bool}
  (hl : Look kvs k z v b) : (Instr.lookup t (.map r) k ok).run P w = .ok (if ok then .tuple #[v, .bool b] else v) w := by
 obtain ⟨h1, h2, h3, h4⟩ := mapTy_some ht
 unfold Instr.lookup
 simp only [Sem.run_bind, underlying_run, h1, Result.andThen_ok]
 cases r with
 | none =>
   have hkv : kvs = [] := hm
   obtain ⟨rr, g1, g2⟩ := find_look (es := []) (w := w) hk h2 hkG hkv.symm (by rw [hkv]; simp) (by rw [hkv]; simp) hl
   simp only [Sem.run_bind, Sem.run_pure, Result.andThen_ok, checkKey_run hk hkG]
   rw [g1]
   rcases g2 with ⟨rfl, rfl, rfl⟩ | ⟨j, rfl, rfl⟩ <;> simp [h4]
 | some r =>
   obtain ⟨es, clock, e1, e2, e3, e4, _⟩ := hm
   obtain ⟨rr, g1, g2⟩ := find_look (es := es.toList) (w := w) hk h2 hkG e2 e3 e4 hl
   simp only [Sem.run_bind, getMap_run e1, Result.andThen_ok, Sem.run_pure, checkKey_run hk hkG, g1]
   rcases g2 with ⟨rfl, rfl, rfl⟩ | ⟨j, rfl, rfl⟩ <;> simp [h4]
theorem nodup_of_map {α β : Type} {f : α → β} : ∀ {l : List α}, (l.map f).Nodup → l.Nodup
 | [], _ => List.nodup_nil
 | a :: l, h => by
   rw [ali17, alj48] at h
   exact alj48.2 ⟨fun hm => h.1 (ali06.2 ⟨a, hm, rfl⟩), nodup_of_map h.2⟩
theorem insL_keys {kvs : List (Value × Value)} {k v : Value} : ∀ e ∈ insL kvs k v, e.1 = k ∨ ∃ e' ∈ kvs, e'.1 = e.1 := by
 intro e he
 unfold insL at he
 split at he
 ·obtain ⟨e', h1, rfl⟩ := ali06.1 he
  refine .inr ⟨e', h1, ?_⟩
  split <;> rfl
 ·rcases ali25.1 he with he | he
  ·exact .inr ⟨e, he, rfl⟩
  ·simp at he; exact .inl (by rw [he])
theorem insL_nodup {kvs : List (Value × Value)} {k v : Value} (h : (kvs.map (·.1)).Nodup) : ((insL kvs k v).map (·.1)).Nodup := by
 classical
 unfold insL
 split
 ·have : (kvs.map fun e => if e.1 = k then (e.1, v) else e).map (·.1) = kvs.map (·.1) := by
   rw [alj35]
   refine alj34 fun e _ => ?_
   simp only [Function.comp_apply]
   split <;> rfl
  rw [this]; exact h
 ·rename_i hn
  rw [ali08]
  refine alj47.2 ⟨h, by simp, fun a ha b hb e => ?_⟩
  simp at hb
  obtain ⟨e', he', rfl⟩ := ali06.1 ha
  exact hn ⟨e', he', by rw [e, hb]⟩
theorem update_run {t kt et : TypeId} {z k v : Value} {G : Value → Prop} {r : Nat} {kvs : List (Value × Value)} {w : World} (ht : mapTy P t = some (kt, et, z)) (hk : KeyOk P kt G) (hm : MapIs G w (some r) kvs) (hkG : G k) :
  ∃ w', (Instr.mapUpdate t (.map (some r)) k v).run P w = .ok () w' ∧ Rec r w w' ∧ MapIs G w' (some r) (insL kvs k v) := by
 obtain ⟨h1, h2, h3, h4⟩ := mapTy_some ht
 obtain ⟨es, clock, e1, e2, e3, e4, e5, e6⟩ := hm
 have hr := (ali22.1 e1).1
 have hGe : ∀ e ∈ es.toList, G e.key := fun e hm => e3 (e.key, e.val) (by rw [← e2]; exact ali06.2 ⟨e, hm, rfl⟩)
 obtain ⟨rr, g1, g2⟩ := findKey_run hk h2 hkG es.toList w hGe
 have hG' : ∀ e ∈ insL kvs k v, G e.1 := fun e he => by
  rcases insL_keys e he with h | ⟨e', h, h'⟩
  ·rw [h]; exact hkG
  ·rw [← h']; exact e3 e' h
 unfold Instr.mapUpdate
 simp only [Sem.run_bind, underlying_run, h1, Result.andThen_ok, getMap_run e1, checkKey_run hk hkG, g1]
 cases rr with
 | none =>
   refine ⟨w.putObj r (.map (es.push { key := k, val := v, born := clock }) (clock + 1)), setMap_run e1, Rec.putObj _ _ _, ?_⟩
   have hno : ¬ ∃ e ∈ kvs, e.1 = k := by
    rintro ⟨e, he, hek⟩
    rw [← e2] at he
    obtain ⟨e', h5, rfl⟩ := ali06.1 he
    exact g2 e' h5 hek
   refine ⟨_, _, World.putObj_heap_same hr, ?_, hG', insL_nodup e4, ?_, ?_⟩
   ·unfold insL
    rw [if_neg hno, ← e2]; simp
   ·simp only [Array.toList_push, ali08, ali17, List.map_nil]
    refine List.pairwise_append.2 ⟨e5, by simp, fun a ha b hb => ?_⟩
    simp at hb; subst hb
    obtain ⟨e, he, rfl⟩ := ali06.1 ha
    exact e6 e he
   ·intro e he
    simp only [Array.toList_push, ali25, alj46] at he
    rcases he with he | rfl
    ·have := e6 e he; omega
    ·show clock < clock + 1; omega
 | some p =>
   obtain ⟨j, v'⟩ := p
   obtain ⟨e, g3, g4, g5⟩ := g2
   have hj : j < es.toList.length := (ali03.1 g3).1
   have hje : es[j]? = some e := by simpa using g3
   have hkey : ((es[j]?).map (·.key)).getD k = k := by rw [hje]; exact g4
   refine ⟨w.putObj r (.map (es.modify j fun e => { e with key := k, val := v }) clock), ?_, Rec.putObj _ _ _, ?_⟩
   ·simp only [hkey, Instr.keyThatStays, hk.bits k hkG, if_true, Sem.run_bind, Sem.run_pure, Result.andThen_ok]
    exact setMap_run e1
   ·have hyes : ∃ e ∈ kvs, e.1 = k := ⟨(e.key, e.val), by rw [← e2]; exact ali06.2 ⟨e, ali00 g3, rfl⟩, g4⟩
    have hmod : (es.modify j fun e => { e with key := k, val := v }).toList = es.toList.modify j fun e => { e with key := k, val := v } := by simp
    have hget : ∀ i, (es.toList.modify j fun e => { e with key := k, val := v })[i]? = (es.toList[i]?).map fun e' => if i = j then { e' with key := k, val := v } else e' := by
     intro i
     rw [alj25]
     cases es.toList[i]? with
     | none => rfl
     | some x => simp [eq_comm]
    refine ⟨_, _, World.putObj_heap_same hr, ?_, hG', insL_nodup e4, ?_, ?_⟩
    ·unfold insL
     rw [if_pos hyes, ← e2, hmod]
     apply ali20
     intro i
     rw [ali02, hget, ali02, ali02]
     cases hi : es.toList[i]? with
     | none => rfl
     | some x =>
       simp only [alj69, Option.some.injEq]
       by_cases hij : i = j
       ·subst hij
        rw [g3] at hi; cases hi
        rw [if_pos rfl, if_pos (show (e.key, e.val).1 = k from g4)]
        show (k, v) = (e.key, v)
        rw [g4]
       ·rw [if_neg hij, if_neg]
        intro hx
        refine hij ?_
        have hxe : x = e := by
         rw [← e2, alj35] at e4
         exact nodup_inj e4 (ali00 hi) (ali00 g3) (show x.key = e.key from (show x.key = k from hx).trans g4.symm)
        have hnd : es.toList.Nodup := by
         rw [← e2, alj35] at e4
         exact nodup_of_map e4
        subst hxe
        exact (List.getElem?_inj (by exact (ali03.1 hi).1) hnd).1 (hi.trans g3.symm)
    ·rw [hmod]
     have : (es.toList.modify j fun e => { e with key := k, val := v }).map (·.born) = es.toList.map (·.born) := by
      apply ali20
      intro i
      rw [ali02, hget, ali02]
      cases es.toList[i]? with
      | none => rfl
      | some x => simp only [alj69]; split <;> rfl
     rw [this]; exact e5
    ·intro e' he'
     rw [hmod] at he'
     obtain ⟨i, hi⟩ := alj26 he'
     rw [hget] at hi
     cases hx : es.toList[i]? with
     | none => rw [hx] at hi; cases hi
     | some x =>
       rw [hx] at hi
       have := e6 x (ali00 hx)
       simp only [alj69, Option.some.injEq] at hi
       split at hi <;> (subst hi; exact this)
theorem delete_run {t kt et : TypeId} {z k : Value} {G : Value → Prop} {r : Nat} {kvs : List (Value × Value)} {w : World} {ty : TypeId} {ats : Array TypeId} (ha : ats[0]? = some t) (ht : mapTy P t = some (kt, et, z)) (hk : KeyOk P kt G) (hm : MapIs G w (some r) kvs) (hkG : G k) :
  ∃ w', (Builtin.delete_ ats ty #[.map (some r), k]).run P w = .ok (.tuple #[]) w' ∧ Rec r w w' ∧ MapIs G w' (some r) (delL kvs k) := by
 obtain ⟨h1, h2, h3, h4⟩ := mapTy_some ht
 obtain ⟨es, clock, e1, e2, e3, e4, e5, e6⟩ := hm
 have hr := (Array.getElem?_eq_some_iff.1 e1).1
 have hGe : ∀ e ∈ es.toList, G e.key := fun e hm => e3 (e.key, e.val) (by rw [← e2]; exact List.mem_map.2 ⟨e, hm, rfl⟩)
 obtain ⟨rr, g1, g2⟩ := findKey_run hk h2 hkG es.toList w hGe
 have hsub : (delL kvs k).Sublist kvs := List.filter_sublist
 unfold Builtin.delete_
 simp only [ha, show (#[Value.map (some r), k] : Array Value)[0]? = some (.map (some r)) from rfl, show (#[Value.map (some r), k] : Array Value)[1]? = some k from rfl, Sem.run_bind, underlying_run, h1, Result.andThen_ok, getMap_run e1, checkKey_run hk hkG, g1]
 cases rr with
 | none =>
   refine ⟨w.putObj r (.map es clock), by rw [Sem.run_bind, setMap_run e1]; rfl, Rec.putObj _ _ _, es, clock, World.putObj_heap_same hr, ?_, fun e he => e3 e (hsub.subset he), (hsub.map _).nodup e4, e5, e6⟩
   rw [e2]
   unfold delL
   symm
   rw [List.filter_eq_self]
   intro e he
   rw [← e2] at he
   obtain ⟨e', h5, rfl⟩ := List.mem_map.1 he
   simpa using g2 e' h5
 | some p =>
   obtain ⟨j, v'⟩ := p
   obtain ⟨e, g3, g4, g5⟩ := g2
   have hj : j < es.toList.length := (List.getElem?_eq_some_iff.1 g3).1
   have hl : (es.eraseIdxIfInBounds j).toList = es.toList.eraseIdx j := by
    unfold Array.eraseIdxIfInBounds
    rw [dif_pos (by simpa using hj), Array.toList_eraseIdx]
   have hs : (es.toList.eraseIdx j).Sublist es.toList := List.eraseIdx_sublist _ _
   refine ⟨w.putObj r (.map (es.eraseIdxIfInBounds j) clock), by rw [Sem.run_bind, setMap_run e1]; rfl, Rec.putObj _ _ _, _, clock, World.putObj_heap_same hr, ?_, fun e he => e3 e (hsub.subset he), (hsub.map _).nodup e4, ?_, ?_⟩
   ·rw [hl, ← e2]
    have hnd : (es.toList.map (·.key)).Nodup := by rw [← e2, List.map_map] at e4; exact e4
    clear hl hs e2 e3 e4 e5 e6 hGe g1 hsub e1 hr h1 h2 h3 h4
    generalize es.toList = l at *
    unfold delL
    induction l generalizing j with
    | nil => simp at hj
    | cons x l ih =>
      rw [List.map_cons, List.nodup_cons] at hnd
      cases j with
      | zero =>
        simp at g3; subst g3
        simp only [List.eraseIdx_cons_zero, List.map_cons]
        rw [List.filter_cons_of_neg (by simpa using g4)]
        symm
        rw [List.filter_eq_self]
        intro y hy
        obtain ⟨y', h5, rfl⟩ := List.mem_map.1 hy
        have : y'.key ≠ k := fun hh => hnd.1 (List.mem_map.2 ⟨y', h5, by rw [hh, g4]⟩)
        simpa using this
      | succ j =>
        have hx : x.key ≠ k := fun hh => hnd.1 (List.mem_map.2 ⟨e, List.mem_of_getElem? (by simpa using g3), by rw [g4, hh]⟩)
        simp only [List.eraseIdx_cons_succ, List.map_cons]
        rw [List.filter_cons_of_pos (by simpa using hx), ih j (by simpa using g3) (by simpa using hj) hnd.2]
   ·rw [hl]; exact e5.sublist (hs.map _)
   ·intro e' he'; rw [hl] at he'; exact e6 e' (hs.subset he')
theorem mlen_run {t kt et : TypeId} {G : Value → Prop} {r : Option Nat} {kvs : List (Value × Value)} {w : World} {ty : TypeId} {ats : Array TypeId} (ha : ats[0]? = some t) (ht : P.underlying t = some (.map kt et)) (hm : MapIs G w r kvs) :
  (Builtin.len_ ats ty #[.map r]).run P w = .ok (.int .i64 kvs.length) w := by
 cases r with
 | none =>
   have : kvs = [] := hm
   subst this
   simp [Builtin.len_, ha, underlying_run, ht, goInt]
 | some r =>
   obtain ⟨es, clock, e1, e2, _⟩ := hm
   have : kvs.length = es.size := by rw [← e2]; simp
   simp [Builtin.len_, ha, underlying_run, ht, goInt, getMap_run e1, this]
def lookOp (P : Program) (s : St) (d : Option Tmp) (t : TypeId) (m k : Value) (ok : Bool) (K : St → Prop) : Prop :=
 match mapTy P t, m with
 | some (kt, et, z), .map r => ∃ (G : Value → Prop) (kvs : List (Value × Value)), KeyOk P kt G ∧ MapIs G s.w r kvs ∧ G k ∧
   (t1Of P et).ex fun v => ∃ b : Bool, Look kvs k z v b ∧ K (s.put d (.val (match ok with | true => .tuple #[v, .bool b] | false => v)))
 | _, _ => False
def updOp (P : Program) (s : St) (d : Option Tmp) (t : TypeId) (m k v : Value) (l : List SV) (K : St → Prop) : Prop :=
 match mapTy P t, m with
 | some (kt, _, _), .map r => ∃ (G : Value → Prop) (kvs : List (Value × Value)), KeyOk P kt G ∧ r.isSome = true ∧ MapIs G s.w r kvs ∧ G k ∧
   ∀ w1, Rec (r.getD 0) s.w w1 → MapIs G w1 r (insL kvs k v) → K (({ s.kill l with w := w1 }).put d (.val undef))
 | _, _ => False
def delOp (P : Program) (s : St) (d : Option Tmp) (ats : List TypeId) (m k : Value) (K : St → Prop) : Prop :=
 match ats, m with
 | t :: _, .map r => match mapTy P t with
   | some (kt, _, _) => ∃ (G : Value → Prop) (kvs : List (Value × Value)), KeyOk P kt G ∧ r.isSome = true ∧ MapIs G s.w r kvs ∧ G k ∧
     ∀ w1, Rec (r.getD 0) s.w w1 → MapIs G w1 r (delL kvs k) → K (({ s with w := w1 }).put d (.val (.tuple #[])))
   | none => False
 | _, _ => False
def mlenOp (P : Program) (s : St) (d : Option Tmp) (ats : List TypeId) (m : Value) (K : St → Prop) : Prop :=
 match ats, m with
 | t :: _, .map r => match mapTy P t with
   | some _ => ∃ (G : Value → Prop) (kvs : List (Value × Value)), MapIs G s.w r kvs ∧ K (s.put d (.val (.int .i64 kvs.length)))
   | none => False
 | _, _ => False
def mkMapOp (P : Program) (s : St) (d : Option Tmp) (t : TypeId) (h : Option Value) (K : St → Prop) : Prop :=
 match mapTy P t, intO h with
 | some _, some _ => ∀ w1, w1 = s.w.alloc (.map #[] 0) → K ({ s with w := w1 }.put d (.val (.map (some s.w.heap.size))))
 | _, _ => False
theorem MapIs.not_cells {G : Value → Prop} {w : World} {r : Nat} {kvs : List (Value × Value)} (h : MapIs G w (some r) kvs) : ∀ c t f, w.heap[r]? ≠ some (.cells c t f) := by
 obtain ⟨es, clock, e1, _⟩ := h
 intro c t f e
 rw [e1] at e; cases e
theorem mkMap_run {t : TypeId} {h : Option Value} {x : TypeId × TypeId × Value} {y : Option Int} (ht : mapTy P t = some x) (hh : intO h = some y) (w : World) : (Instr.makeMap t h).run P w = .ok (.map (some w.heap.size)) (w.alloc (.map #[] 0)) := by
 obtain ⟨kt, et, z⟩ := x
 obtain ⟨h1, _⟩ := mapTy_some ht
 cases h with
 | none => simp [Instr.makeMap, newObj_run]
 | some v =>
   cases v <;> simp [intO] at hh
   simp [Instr.makeMap, underlying_run, h1, asInt, asIntOf, newObj_run]
end
def buildSliceC (P : Program) (t : TypeId) (len : Nat) (parts : Array (Nat × Value)) : Option (TypeId × Array Value) :=
 match elemInfo P t with
 | none => none
 | some (e, i) => match i.zero with
   | none => none
   | some z => match len with
     | 0 => (match parts.toList with | [] => some (e, #[]) | _ => none)
     | len => if ¬ len * i.size > 2 ^ 24 ∧ ¬ len * i.size = 0 then
       (Instr.fill (fun j => some (j * i.size, i.size)) ((Array.range (len * i.size)).map (z.cells[· % z.cells.size]!)) parts.toList).map fun cs => (e, cs)
      else none
def buildSliceOp (P : Program) (s : St) (d : Option Tmp) (t : TypeId) (len : Nat) (parts : Array (Nat × Value)) (K : St → Prop) : Prop :=
 match buildSliceC P t len parts with
 | some (e, cells) => ∀ w1, w1 = s.w.alloc (.cells cells e) → K ({ s with w := w1, kn := s.kn ++ [KB.mk s.w.heap.size cells.toList e true] }.put d (.sli s.kn.length len))
 | none => False
theorem buildSliceC_run {t : TypeId} {len : Nat} {parts : Array (Nat × Value)} {e : TypeId} {cells : Array Value} (h : buildSliceC P t len parts = some (e, cells)) (w : World) :
  (Instr.buildSlice t len parts).run P w = .ok (.slice (some ⟨w.heap.size, 0, none⟩) len len) (w.alloc (.cells cells e)) := by
 unfold buildSliceC at h
 split at h
 ·cases h
 rename_i e' i he
 obtain ⟨ht, hi⟩ := elemInfo_some he
 split at h
 ·cases h
 rename_i z hz
 split at h
 ·split at h
  ·rename_i hp
   cases h
   obtain ⟨l⟩ := parts
   simp only at hp
   subst hp
   simp [Instr.buildSlice, underlying_run, ht, sizeOf, typeInfo, hi, Instr.fill, newRow]
   congr 2
   exact Array.eq_empty_of_size_eq_zero smm
  ·cases h
 ·split at h
  ·rename_i hl
   cases hf : Instr.fill (fun j => some (j * i.size, i.size)) ((Array.range (len * i.size)).map (z.cells[· % z.cells.size]!)) parts.toList with
   | none => rw [hf] at h; cases h
   | some cs =>
     rw [hf] at h
     cases h
     exact run_buildSlice w t e len parts cells i z ht hi hz hl.1 hl.2 hf
  ·cases h
theorem buildSliceOp_post {d : Option Tmp} {t : TypeId} {len : Nat} {parts : Array (Nat × Value)} (hok : s.Ok) (h : buildSliceOp P s d t len parts K) :
  ∃ v w', (Instr.buildSlice t len parts).run P s.w = .ok v w' ∧ Post d s K (s.act.put d v) w' := by
 unfold buildSliceOp at h
 split at h
 ·rename_i e cells hc
  refine ⟨_, _, buildSliceC_run hc s.w, ?_⟩
  have hold : ∀ j, j < s.w.heap.size → (s.w.alloc (.cells cells e)).heap[j]? = s.w.heap[j]? := fun j hj => Below.heap_alloc _ _ _ hj
  have hnew : (s.w.alloc (.cells cells e)).heap[s.w.heap.size]? = some (.cells cells e (0, 0)) := by
   show (s.w.heap.push _)[s.w.heap.size]? = _
   simp
  have key : ∀ (i : Nat) (x : KB), (s.kn ++ [KB.mk s.w.heap.size cells.toList e true])[i]? = some x → (i < s.kn.length ∧ s.kn[i]? = some x) ∨ (i = s.kn.length ∧ x = KB.mk s.w.heap.size cells.toList e true) := by
   intro i x hx
   rcases alj62 i s.kn.length with hlt | hge
   ·exact .inl ⟨hlt, by rwa [ali18 hlt] at hx⟩
   ·rw [ali19 hge] at hx
    cases hz : i - s.kn.length with
    | zero => simp [hz] at hx; subst hx; exact .inr ⟨by omega, rfl⟩
    | succ n => simp [hz] at hx
  have h := h _ rfl
  refine post_put h hok rfl (idx_append _ _) (fun k kb h1 h2 => ?_) (fun i j x y h1 h2 h3 h4 h5 => ?_) (show s.kn.length < (s.kn ++ [_]).length by simp) ?_ rfl
  ·rcases key k kb h1 with ⟨_, a2⟩ | ⟨_, rfl⟩
   ·rw [← hok.blk k kb a2 h2]; exact hold _ (hok.lt k kb a2 h2)
   ·simpa using hnew
  ·rcases key i x h1 with ⟨a1, a2⟩ | ⟨a1, rfl⟩ <;> rcases key j y h2 with ⟨b1, b2⟩ | ⟨b1, rfl⟩
   ·exact hok.ne i j x y a2 b2 h3 h4 h5
   ·have := hok.lt i x a2 h3; simp only at h5; omega
   ·have := hok.lt j y b2 h4; simp only at h5; omega
   ·omega
  ·simp [SV.conc, ali05]
 ·cases h
def okT (P : Program) (t : TypeId) : Bool := match P.underlying t with | some _ => true | none => false
def okI (P : Program) (t : TypeId) : Bool := match P.info? t with | some _ => true | none => false
theorem okT_true {t : TypeId} (h : okT P t = true) : (P.underlying t).isSome = true := by unfold okT at h; split at h <;> simp_all
theorem okI_true {t : TypeId} (h : okI P t = true) : (P.info? t).isSome = true := by unfold okI at h; split at h <;> simp_all
def evParts (s : St) (parts : Array (Nat × Operand)) : Array (Nat × Value) := parts.map fun p => (p.1, s.ev p.2)
def indexOp (P : Program) (s : St) (d : Option Tmp) (t : TypeId) (x i : Value) (K : St → Prop) : Prop :=
 match x, i, arrElem P t with
 | .agg cs, .int _ i, some (n, e) => match t1Of P e, elemSize P e, okT P e with
   | .sc c, some z, true => (0 ≤ i ∧ i < (n : Int)) ∧ c.ex fun v => cs.toList[i.toNat * z]? = some v ∧ K (s.put d (.val v))
   | .agg l, some z, true => (0 ≤ i ∧ i < (n : Int)) ∧ exL l fun vs => (cs.toList.drop (i.toNat * z)).take z = vs ∧ K (s.put d (.val (.agg vs.toArray)))
   | _, _, _ => False
 | _, _, _ => False
theorem indexOp_post {d : Option Tmp} {t : TypeId} {x i : Value} (hok : s.Ok) (h : indexOp P s d t x i K) : ∃ v, (Instr.index t x i).run P s.w = .ok v s.w ∧ Post d s K (s.act.put d v) s.w := by
 unfold indexOp at h
 split at h
 ·rename_i cs k i n e ha
  have hu : P.underlying t = some (.array n e) := by
   unfold arrElem at ha; split at ha
   ·rename_i hu; cases ha; exact hu
   ·cases ha
  split at h
  ·rename_i c z ht hz hue
   obtain ⟨hb, hex⟩ := h
   obtain ⟨v, hv, hk⟩ := S.ex_out hex
   have hz' : (sizeOf e).run P s.w = .ok z s.w := by
    unfold elemSize at hz
    cases hi' : P.info? e with
    | none => simp [hi'] at hz
    | some i' => simp [hi'] at hz; rw [sizeOf_run (by simp [hi'])]; simp [sizeAt, hi', hz]
   refine ⟨v, ?_, post_val hok hk⟩
   have hp := (part_run (P := P) (t := e) (cs := cs) (off := i.toNat * z) s.w (by have := okT_true hue; cases hq : P.underlying e <;> simp_all)).2 (t1_sc ht) v (by simpa using hv)
   simp [Instr.index, asIntOf, underlying_run, hu, hb, hz', hp]
  ·rename_i l z ht hz hue
   obtain ⟨hb, hex⟩ := h
   obtain ⟨vs, hv, hk⟩ := exL_out hex
   have hz' : (sizeOf e).run P s.w = .ok z s.w := by
    unfold elemSize at hz
    cases hi' : P.info? e with
    | none => simp [hi'] at hz
    | some i' => simp [hi'] at hz; rw [sizeOf_run (by simp [hi'])]; simp [sizeAt, hi', hz]
   have hsz : sizeAt P e = z := by
    unfold elemSize at hz
    unfold sizeAt
    rw [hz]; rfl
   refine ⟨_, ?_, post_val hok hk⟩
   have hp := (part_run (P := P) (t := e) (cs := cs) (off := i.toNat * z) s.w (by have := okT_true hue; cases hq : P.underlying e <;> simp_all)).1 (t1_agg ht)
   rw [hsz, hv] at hp
   simp [Instr.index, asIntOf, underlying_run, hu, hb, hz', hp]
  ·cases h
 ·cases h
def bytesC (P : Program) (src dst : TypeId) : Bool :=
 match P.underlying src, P.underlying dst with
 | some (.slice e), some .string => match P.underlying e with | some (.int .u8) => true | _ => false
 | _, _ => false
def convB (P : Program) (s : St) : Op → Option (Option Addr × Nat)
 | .convert src dst x => match bytesC P src dst with
   | true => match s.ev x with | .slice a n _ => some (a, n) | _ => none
   | false => none
 | _ => none
theorem convB_run {o : Oper} {a : Option Addr} {n : Nat} (h : convB P s o.op = some (a, n)) {ns : List Int} (hn : ns.length = n) {w' : World} (hl : LoadL w' a 0 (ns.map (Value.int .u8))) :
  (execOp s.ev o).run P w' = .ok (.value (.string (strOfNums ns))) w' := by
 obtain ⟨dst, op, ty, pos, after, guard⟩ := o
 simp only at h
 unfold convB at h
 split at h
 ·rename_i src dst' x
  split at h
  ·rename_i hb
   split at h
   ·rename_i a' n' c hx
    cases h
    unfold bytesC at hb
    split at hb
    ·rename_i e hs hd
     split at hb
     ·rename_i he
      show (do pure (Next.value (← convert src dst' (s.ev x))) : Sem Next).run P w' = _
      have key : (convert src dst' (s.ev x)).run P w' = .ok (.string (strOfNums ns)) w' := by
       rw [hx]
       cases a with
       | none =>
         have : ns = [] := by
          cases ns with
          | nil => rfl
          | cons v r => have := LoadL_at hl 0 smm; simp [Vc.ld, padd] at this
         subst this
         rw [run_convert_bytes_nil w' src e hs he _ _ dst' hd]; rfl
       | some b =>
         have hc := run_loadCells_list (P := P) (w := w') b (ns.map (Value.int .u8)) (fun j v hj => by
          have := LoadL_at hl j (ali03.1 hj).1
          rw [ali37, hj] at this
          exact this)
         rw [ali01, hn] at hc
         rw [run_convert_bytes_string w' src dst' e _ n c hs he hd, run_bytesToString w' _ n c ns hc, foldl_push_bytes]
         simp [strOfNums, ByteArray.empty, ByteArray.emptyWithCapacity]
         rfl
      rw [Sem.run_bind, key]; rfl
     ·cases hb
    ·cases hb
   ·cases h
  ·cases h
 ·cases h
def notIf (P : Program) (t : TypeId) : Bool := match P.underlying t with | some (.interface _) => false | some _ => true | none => false
theorem makeIf_run {t : TypeId} {v : Value} (h : notIf P t = true) (w : World) : (Instr.makeInterface t v).run P w = .ok (.iface t v) w := by
 unfold notIf at h
 split at h
 ·cases h
 ·rename_i d hd hne
  simp only [Instr.makeInterface, Sem.run_bind, underlying_run, hd, Result.andThen_ok]
  cases d <;> simp_all
 ·cases h
theorem assert_run {a xT : TypeId} {v : Value} (h : notIf P a = true) (w : World) : (Instr.typeAssert (.iface a v) xT a false).run P w = .ok v w := by
 unfold notIf at h
 split at h
 ·cases h
 ·rename_i d hd hne
  simp only [Instr.typeAssert, Sem.run_bind, underlying_run, hd, Result.andThen_ok]
  cases d <;> simp_all
 ·cases h
def asOkOp (P : Program) (s : St) (d : Option Tmp) (a : TypeId) (x : Value) (K : St → Prop) : Prop :=
 match notIf P a with
 | true => match (P.info? a).bind (·.zero) with
   | some z => ∃ (t : TypeId) (v : Value), x = .iface t v ∧ Br (decide (t = a)) ((t1Of P a).ex fun u => v = u ∧ K (s.put d (.val (.tuple #[u, .bool true])))) (K (s.put d (.val (.tuple #[z, .bool false]))))
   | none => False
 | false => False
def isStrT (P : Program) (t : TypeId) : Bool := match P.underlying t with | some .string => true | _ => false
def rangeOp (P : Program) (s : St) (d : Option Tmp) (t : TypeId) (x : Value) (K : St → Prop) : Prop :=
 match isStrT P t with
 | true => match x with
   | .string str => ∀ w1, w1 = s.w.alloc (.stringIter str 0) → K ({ s with w := w1 }.put d (.val (.pointer (some ⟨s.w.heap.size, 0, none⟩))))
   | _ => False
 | false => False
def nextOp (s : St) (d : Option Tmp) (x : Value) (K : St → Prop) : Prop :=
 match x with
 | .pointer p => ∃ (r : Nat) (str : ByteArray) (pos : Nat), p = some ⟨r, 0, none⟩ ∧ s.w.heap[r]? = some (.stringIter str pos) ∧
   Br (decide (pos < str.size)) (∀ w1, Rec r s.w w1 → w1.heap[r]? = some (.stringIter str (pos + (Utf8.decode str pos).2)) → K ({ s with w := w1 }.put d (.val (.tuple #[.bool true, .int .i64 pos, .int .i32 (Utf8.decode str pos).1]))))
    (K (s.put d (.val (.tuple #[.bool false]))))
 | _ => False
def panOp [PQ] (s : St) (x : Value) : Prop :=
 match PQ.q with
 | none => False
 | some q => match s.df with
   | [] => match x with | .iface t v => q [{ v := .iface t v, recovered := false }] s.w | _ => False
   | _ => False
def impOp [PQ] (P : Program) (s : St) (o : Oper) (K : St → Prop) : Prop :=
 match o.op with
 | .index t x i => indexOp P s o.dst t (s.ev x) (s.ev i) K
 | .load t x => match okT P t with | true => loadOp P s o.dst t (s.sv x) K | false => False
 | .store t x v => match okI P t with | true => storeOp P s o.dst t (s.sv x) (s.sv v) K | false => False
 | .box t v => match isAg P t with
   | true => allocV P (s.kill [s.sv v]) o.dst t (cellsOf (s.ev v)) K
   | false => AndL (oneC (s.ev v)) (allocV P (s.kill [s.sv v]) o.dst t [s.ev v] K)
 | .alloc t => match zeroOf P t with | some cs => allocV P s o.dst t cs K | none => False
 | .build t parts => match P.built t (parts.toList.map fun (i, x) => (i, s.ev x)) with
   | some cs => K ((s.kill (parts.toList.map fun (_, x) => s.sv x)).put o.dst (.val (.agg cs)))
   | none => False
 | .buildSlice t len parts => buildSliceOp P (s.kill (parts.toList.map fun (_, x) => s.sv x)) o.dst t len (evParts s parts) K
 | .makeFunc fn first captured => K ((s.kill ((first ++ captured).toList.map s.sv)).put o.dst (.val (.func fn (first.toList.map s.ev).toArray (captured.toList.map s.ev).toArray)))
 | .lookup t x k ok => lookOp P s o.dst t (s.ev x) (s.ev k) ok K
 | .mapUpdate t m k v | .insert t m k v => updOp P s o.dst t (s.ev m) (s.ev k) (s.ev v) [s.sv k, s.sv v] K
 | .makeMap t h => mkMapOp P s o.dst t (h.map s.ev) K
 | .call ⟨.builtin .delete, args, ats⟩ => match args.toList with
   | [m, k] => delOp P s o.dst ats.toList (s.ev m) (s.ev k) K
   | _ => False
 | .makeSlice t l c => makeOp P s o.dst t (s.ev l) (s.ev c) K
 | .call ⟨.builtin .copy, args, ats⟩ => match args.toList with
   | [x, y] => copyOp P s o.dst ats.toList (s.ev x) (s.ev y) K
   | _ => False
 | .call ⟨.builtin .clear, args, ats⟩ => match args.toList with
   | [x] => clearOp P s o.dst ats.toList (s.ev x) K
   | _ => False
 | .call ⟨.builtin .len, args, ats⟩ => match args.toList with
   | [m] => mlenOp P s o.dst ats.toList (s.ev m) K
   | _ => False
 | .call ⟨.value x, args, _⟩ => callOp P s o.dst o.type (s.ev x) (args.toList.map s.sv) K
 | .call ⟨.builtin .append, args, ats⟩ => match args.toList, ats.toList with
   | [x, y], [t, tx] => appendOp P s o.dst t tx (s.sv x) (s.sv y) K
   | _, _ => False
 | .convert .. => match convB P s o.op with
   | some (a, n) => ∃ ns : List Int, ns.length = n ∧ LoadL s.w a 0 (ns.map (Value.int .u8)) ∧ K (s.put o.dst (.val (.string (strOfNums ns))))
   | none => False
 | .makeInterface t x => match notIf P t with | true => K ((s.kill [s.sv x]).put o.dst (.val (.iface t (s.ev x)))) | false => False
 | .typeAssert x _ a ok => match ok with
   | false => match notIf P a with | true => (t1Of P a).ex fun v => s.ev x = .iface a v ∧ K (s.put o.dst (.val v)) | false => False
   | true => asOkOp P s o.dst a (s.ev x) K
 | .range t x => rangeOp P s o.dst t (s.ev x) K
 | .next x isS => match isS with | true => nextOp s o.dst (s.ev x) K | false => False
 | .panic x => panOp s (s.ev x)
 | _ => False
def vcOp [PQ] (P : Program) (s : St) (o : Oper) (K : St → Prop) : Prop :=
 match pureOp P s o.op with
 | some (cs, sv) => AndL cs (K (s.put o.dst sv))
 | none => impOp P s o K
theorem post_of {d : Option Tmp} {s1 : St} {a : Act} {w : World} (hok : s.Ok) (h1 : s1.sl = s.sl) (h2 : Idx s.kn s1.kn) (h : Post d s1 K a w) (hdf : s1.df = s.df := by first | rfl | exact kill_df _ _) : Post d s K a w := by
 obtain ⟨s', a1, a2, a3, a4, a5⟩ := h
 refine ⟨s', a1, a2, a3, ⟨a4.len.trans (by rw [h1]), fun i hi => (a4.slot i hi).trans ?_, h2.trans a4.kn, by rw [← hdf]; exact a4.df⟩, a5⟩
 rw [h1]
 simp only [ali05]
 cases hg : s.sl[i]? with
 | none => rfl
 | some u => exact h2.conc (hok.locs i u hg)
theorem act_kill {l : List SV} (hok : s.Ok) : (s.kill l).act = s.act := by
 obtain ⟨k1, k2, k3, k4, k5⟩ := kill_Ok l hok
 simp only [St.act, k2, kill_df]
 congr 2
 refine alj34 fun x hx => ?_
 obtain ⟨i, hi⟩ := alj26 hx
 exact k4.conc (hok.locs i x hi)
theorem asOk_run {a xT : TypeId} {v z : Value} {t : TypeId} (h : notIf P a = true) (hz : (P.info? a).bind (·.zero) = some z) (w : World) :
  (Instr.typeAssert (.iface t v) xT a true).run P w = .ok (if t = a then .tuple #[v, .bool true] else .tuple #[z, .bool false]) w := by
 have hz' : (zeroValue a).run P w = .ok z w := by
  cases hi : P.info? a with
  | none => simp [hi] at hz
  | some i =>
    cases hz2 : i.zero with
    | none => simp [hi, hz2] at hz
    | some z' => simp [hi, hz2] at hz; subst hz; simp [zeroValue, typeInfo_run, hi, hz2]
 unfold notIf at h
 split at h
 ·cases h
 ·rename_i d hd hne
  simp only [Instr.typeAssert, Sem.run_bind, underlying_run, hd, Result.andThen_ok]
  by_cases e : t = a
  ·cases d <;> simp_all
  ·cases d <;> simp_all
 ·cases h
theorem asOkOp_post {d : Option Tmp} {a xT : TypeId} {x : Value} (hok : s.Ok) (h : asOkOp P s d a x K) : ∃ v, (Instr.typeAssert x xT a true).run P s.w = .ok v s.w ∧ Post d s K (s.act.put d v) s.w := by
 unfold asOkOp at h
 split at h
 ·rename_i hn
  split at h
  ·rename_i z hz
   obtain ⟨t, v, rfl, h⟩ := h
   refine ⟨_, asOk_run hn hz s.w, ?_⟩
   by_cases e : t = a
   ·rw [if_pos e]
    have h := Br.tt h (decide_eq_true e)
    obtain ⟨u, e2, h⟩ := T1.ex_out h
    subst e2
    exact post_val hok h
   ·rw [if_neg e]
    exact post_val hok (Br.ff h (decide_eq_false e))
  ·cases h
 ·cases h
theorem rangeOp_post {d : Option Tmp} {t : TypeId} {x : Value} (hok : s.Ok) (h : rangeOp P s d t x K) : ∃ v w', (Instr.range t x).run P s.w = .ok v w' ∧ Post d s K (s.act.put d v) w' := by
 unfold rangeOp at h
 split at h
 ·rename_i ht
  split at h
  ·rename_i str
   have hu : P.underlying t = some .string := by
    unfold isStrT at ht
    split at ht
    ·assumption
    ·cases ht
   refine ⟨.pointer (some ⟨s.w.heap.size, 0, none⟩), s.w.alloc (.stringIter str 0), by simp [Instr.range, underlying_run, hu, newObj_run], ?_⟩
   have h := h _ rfl
   have hok' : ({ s with w := s.w.alloc (.stringIter str 0) } : St).Ok := ⟨fun k kb h1 h2 => by rw [← hok.blk k kb h1 h2]; exact Below.heap_alloc _ _ _ (hok.lt k kb h1 h2), hok.ne, hok.locs⟩
   exact post_of (s1 := { s with w := s.w.alloc (.stringIter str 0) }) hok rfl (Idx.refl _) (post_val hok' h) rfl
  ·cases h
 ·cases h
theorem nextOp_post {d : Option Tmp} {ty : TypeId} {x : Value} (hok : s.Ok) (h : nextOp s d x K) : ∃ v w', (Instr.next x true ty).run P s.w = .ok v w' ∧ Post d s K (s.act.put d v) w' := by
 unfold nextOp at h
 split at h
 ·rename_i p
  obtain ⟨r, str, pos, rfl, hr, h⟩ := h
  by_cases hp : pos < str.size
  ·have h := Br.tt h (decide_eq_true hp)
   have hlt : r < s.w.heap.size := (Array.getElem?_eq_some_iff.1 hr).1
   refine ⟨.tuple #[.bool true, .int .i64 pos, .int .i32 (Utf8.decode str pos).1], s.w.putObj r (.stringIter str (pos + (Utf8.decode str pos).2)), ?_, ?_⟩
   ·simp only [Instr.next, getObj, setObj, Sem.run_bind, Sem.run, hr, Result.andThen, hp, if_true]
    simp [goInt, World.putObj]
   ·have hrec := Rec.putObj s.w r (.stringIter str (pos + (Utf8.decode str pos).2))
    have hok' := Ok_rec hok (fun c t f e => by rw [hr] at e; cases e) hrec
    have h := h _ hrec (by simp [World.putObj, hlt])
    exact post_of (s1 := { s with w := s.w.putObj r (.stringIter str (pos + (Utf8.decode str pos).2)) }) hok rfl (Idx.refl _) (post_val hok' h) rfl
  ·have h := Br.ff h (decide_eq_false hp)
   exact ⟨.tuple #[.bool false], s.w, by simp [Instr.next, getObj, Sem.run, hr, hp], post_val hok h⟩
 ·cases h
theorem impOp_sound [PQ] (hQ : PQok Q) (hP : NoNG P) (hok : s.Ok) (hny : ∀ x args ats l f c, o.op = .call ⟨.value x, args, ats⟩ → s.ev x ≠ .func (.yield l) f c) (h : impOp P s o K) : o.wp P s.act s.w (Post o.dst s K) Q := by
 obtain ⟨dst, op, ty, pos, after, guard⟩ := o
 unfold impOp at h
 simp only at h
 have ev : ∀ {s' : Sem Value} {v : Value} {w' : World}, (execOp s.ev ⟨dst, op, ty, pos, after, guard⟩ = do pure (.value (← s'))) → s'.run P s.w = .ok v w' → Post dst s K (s.act.put dst v) w' →
   (Oper.mk dst op ty pos after guard).wp P s.act s.w (Post dst s K) Q := by
  intro s' v w' h1 h2 h3
  unfold Oper.wp
  rw [St.eval_eq, h1, Sem.run_bind, h2]
  exact h3
 split at h
 ·rename_i t x i
  obtain ⟨v, h1, h2⟩ := indexOp_post hok h
  exact ev (s' := Instr.index t (s.ev x) (s.ev i)) rfl h1 h2
 ·rename_i t x
  split at h
  ·rename_i hu
   obtain ⟨a, v, h1, h2, h3⟩ := loadOp_run hok (okT_true hu) h
   refine ev (s' := Instr.loadAt t (s.ev x)) rfl ?_ (post_val hok h2)
   rw [St.ev, h1]; exact h3
  ·cases h
 ·rename_i t x v
  split at h
  ·rename_i hu
   obtain ⟨a, w', h1, h2, h3⟩ := storeOp_post hok (okI_true hu) h
   unfold Oper.wp
   rw [St.eval_eq]
   have : execOp s.ev ⟨dst, .store t x v, ty, pos, after, guard⟩ = (do Instr.storeAt t (s.ev x) (s.ev v); pure .skip) := rfl
   rw [this, Sem.run_bind, St.ev, h1]
   simp only [St.ev] at h2 ⊢
   rw [h2]; exact h3
  ·cases h
 ·rename_i t v
  have h : allocV P (s.kill [s.sv v]) dst t (cellsOf (s.ev v)) K := by
   revert h
   cases isAg P t with
   | true => exact id
   | false =>
     intro h
     obtain ⟨h1, h2⟩ := AndL_iff.1 h
     have : cellsOf (s.ev v) = [s.ev v] := by
      generalize s.ev v = x at h1
      cases x <;> first | rfl | exact (h1 False (by simp [oneC])).elim
     rw [this]; exact h2
  obtain ⟨k1, k2, k3, k4, k5⟩ := kill_Ok [s.sv v] hok
  have h3 := post_of hok k2 k4 (post_alloc k1 h)
  rw [act_kill hok, k3] at h3
  exact ev (s' := Instr.box t (s.ev v)) rfl (box_run _) h3
 ·rename_i t
  split at h
  ·rename_i cs hz
   exact ev (s' := Instr.alloc t true (.tuple #[])) rfl (alloc_run hz _) (post_alloc hok h)
  ·cases h
 ·rename_i t parts
  split at h
  ·rename_i cs hb
   obtain ⟨k1, k2, k3, k4, k5⟩ := kill_Ok (parts.toList.map fun (_, x) => s.sv x) hok
   have h3 := post_of hok k2 k4 (post_val k1 h)
   rw [act_kill hok, k3] at h3
   refine ev (s' := Instr.build t (parts.map fun (i, x) => (i, s.ev x))) rfl (run_build _ _ _ _ ?_) h3
   simpa using hb
  ·cases h
 ·rename_i t len parts
  obtain ⟨k1, k2, k3, k4, k5⟩ := kill_Ok (parts.toList.map fun (_, x) => s.sv x) hok
  obtain ⟨v, w', h1, h2⟩ := buildSliceOp_post k1 h
  have h3 := post_of hok k2 k4 h2
  rw [act_kill hok] at h3
  rw [k3] at h1
  exact ev (s' := Instr.buildSlice t len (evParts s parts)) rfl h1 h3
 ·rename_i fn first captured
  obtain ⟨k1, k2, k3, k4, k5⟩ := kill_Ok ((first ++ captured).toList.map s.sv) hok
  have h3 := post_of hok k2 k4 (post_val k1 h)
  rw [act_kill hok, k3] at h3
  refine ev (s' := Instr.makeFunc fn (first.map s.ev) (captured.map s.ev)) (v := .func fn (first.map s.ev) (captured.map s.ev)) (w' := s.w) rfl rfl ?_
  have e1 : (first.toList.map s.ev).toArray = first.map s.ev := by apply Array.ext'; simp
  have e2 : (captured.toList.map s.ev).toArray = captured.map s.ev := by apply Array.ext'; simp
  rw [e1, e2] at h3
  exact h3
 ·rename_i t x k ok
  unfold lookOp at h
  split at h
  case h_2 => exact h.elim
  rename_i kt et z r ht hx
  obtain ⟨G, kvs, hk, hm, hG, hex⟩ := h
  obtain ⟨v, b, hl, hK⟩ := T1.ex_out hex
  refine ev (s' := Instr.lookup t (s.ev x) (s.ev k) ok) rfl ?_ (post_val hok hK)
  rw [hx, lookup_run ht hk hm hG ok hl]
  cases ok <;> rfl
 ·rename_i t m k v
  unfold updOp at h
  split at h
  case h_2 => exact h.elim
  rename_i kt et z r ht hx
  obtain ⟨G, kvs, hk, hr, hm, hG, hK⟩ := h
  obtain ⟨r, rfl⟩ := ali29.1 hr
  obtain ⟨w', h1, h2, h3⟩ := update_run (v := s.ev v) ht hk hm hG
  unfold Oper.wp
  rw [St.eval_eq]
  have : execOp s.ev ⟨dst, .mapUpdate t m k v, ty, pos, after, guard⟩ = (do Instr.mapUpdate t (s.ev m) (s.ev k) (s.ev v); pure .skip) := rfl
  rw [this, Sem.run_bind, hx, h1]
  obtain ⟨k1, k2, k3, k4, k5⟩ := kill_Ok [s.sv k, s.sv v] hok
  have hok' := Ok_rec k1 (D := r) (w' := w') (by rw [k3]; exact hm.not_cells) (by rw [k3]; exact h2)
  exact post_ok (v := .val undef) (hK w' h2 h3) hok hok' k2 k4 trivial rfl rfl
 ·rename_i t m k v
  unfold updOp at h
  split at h
  case h_2 => exact h.elim
  rename_i kt et z r ht hx
  obtain ⟨G, kvs, hk, hr, hm, hG, hK⟩ := h
  obtain ⟨r, rfl⟩ := ali29.1 hr
  obtain ⟨w', h1, h2, h3⟩ := update_run (v := s.ev v) ht hk hm hG
  unfold Oper.wp
  rw [St.eval_eq]
  have : execOp s.ev ⟨dst, .insert t m k v, ty, pos, after, guard⟩ = (do Instr.mapUpdate t (s.ev m) (s.ev k) (s.ev v); pure .skip) := rfl
  rw [this, Sem.run_bind, hx, h1]
  obtain ⟨k1, k2, k3, k4, k5⟩ := kill_Ok [s.sv k, s.sv v] hok
  have hok' := Ok_rec k1 (D := r) (w' := w') (by rw [k3]; exact hm.not_cells) (by rw [k3]; exact h2)
  exact post_ok (v := .val undef) (hK w' h2 h3) hok hok' k2 k4 trivial rfl rfl
 ·rename_i t hh
  unfold mkMapOp at h
  split at h
  case h_2 => exact h.elim
  rename_i x y ht hy
  have hnew := h _ rfl
  have hrun := mkMap_run ht hy s.w
  refine ev (s' := Instr.makeMap t (hh.map s.ev)) rfl hrun ?_
  exact post_put (s1 := { s with w := s.w.alloc (.map #[] 0) }) (v := .val (.map (some s.w.heap.size))) hnew hok rfl (Idx.refl _) (fun k kb h1 h2 => by
   rw [← hok.blk k kb h1 h2]; exact Below.heap_alloc _ _ _ (hok.lt k kb h1 h2)) hok.ne trivial rfl rfl
 ·rename_i args ats
  split at h
  case h_2 => exact h.elim
  rename_i m k ha
  unfold delOp at h
  split at h
  case h_2 => exact h.elim
  rename_i t rest r hat hx
  split at h
  case h_2 => exact h.elim
  rename_i kt et z ht
  obtain ⟨G, kvs, hk, hr, hm, hG, hK⟩ := h
  obtain ⟨r, rfl⟩ := ali29.1 hr
  obtain ⟨args⟩ := args
  simp only at ha
  subst ha
  have hat0 : ats[0]? = some t := by rw [← Array.getElem?_toList, hat]; rfl
  obtain ⟨w', h1, h2, h3⟩ := delete_run (ty := ty) hat0 ht hk hm hG
  refine ev (s' := Builtin.delete_ ats ty #[s.ev m, s.ev k]) ?_ (by rw [hx]; exact h1) ?_
  ·rw [BigFrame.execOp_builtin]
   have : Array.map s.ev #[m, k] = #[s.ev m, s.ev k] := by simp
   rw [this]; rfl
  ·have hok' := Ok_rec hok (D := r) (w' := w') hm.not_cells h2
   exact post_ok (v := .val (.tuple #[])) (hK w' h2 h3) hok hok' rfl (Idx.refl _) trivial rfl rfl
 ·rename_i t l c
  obtain ⟨v, w', h1, h2⟩ := makeOp_post hok h
  exact ev (s' := Instr.makeSlice t (s.ev l) (s.ev c)) rfl h1 h2
 ·rename_i args ats
  split at h
  case h_2 => exact h.elim
  rename_i x y ha
  obtain ⟨args⟩ := args
  simp only at ha
  subst ha
  obtain ⟨v, w', h1, h2⟩ := copyOp_post (ty := ty) hok h
  refine ev (s' := Builtin.copy_ ats ty #[s.ev x, s.ev y]) ?_ h1 h2
  rw [BigFrame.execOp_builtin]
  have : Array.map s.ev #[x, y] = #[s.ev x, s.ev y] := by simp
  rw [this]; rfl
 ·rename_i args ats
  split at h
  case h_2 => exact h.elim
  rename_i x ha
  obtain ⟨args⟩ := args
  simp only at ha
  subst ha
  obtain ⟨v, w', h1, h2⟩ := clearOp_post (ty := ty) hok h
  refine ev (s' := Builtin.clear_ ats ty #[s.ev x]) ?_ h1 h2
  rw [BigFrame.execOp_builtin]
  have : Array.map s.ev #[x] = #[s.ev x] := by simp
  rw [this]; rfl
 ·rename_i args ats
  split at h
  case h_2 => exact h.elim
  rename_i m ha
  unfold mlenOp at h
  split at h
  case h_2 => exact h.elim
  rename_i t rest r hat hx
  split at h
  case h_2 => exact h.elim
  rename_i x ht
  obtain ⟨kt, et, z⟩ := x
  obtain ⟨G, kvs, hm, hK⟩ := h
  obtain ⟨args⟩ := args
  simp only at ha
  subst ha
  have hat0 : ats[0]? = some t := by rw [← Array.getElem?_toList, hat]; rfl
  refine ev (s' := Builtin.len_ ats ty #[s.ev m]) ?_ (by rw [hx]; exact mlen_run (ty := ty) hat0 (mapTy_some ht).1 hm) (post_val hok hK)
  rw [BigFrame.execOp_builtin]
  have : Array.map s.ev #[m] = #[s.ev m] := by simp
  rw [this]; rfl
 ·exact wp_call hQ hP hok (fun l f c => hny _ _ _ l f c rfl) h
 ·rename_i args ats
  split at h
  ·rename_i x y t tx ha ht
   obtain ⟨args⟩ := args
   obtain ⟨ats⟩ := ats
   simp only at ha ht
   subst ha ht
   obtain ⟨v, w', h1, h2⟩ := appendOp_post (ty := ty) hok h
   unfold Oper.wp
   rw [St.eval_eq, BigFrame.execOp_builtin, BigFrame.builtin_append]
   have : Array.map s.ev #[x, y] = #[s.ev x, s.ev y] := by simp
   rw [this, Sem.run_bind]
   simp only [St.ev]
   rw [h1]
   exact h2
  ·cases h
 ·split at h
  ·rename_i a n hc
   obtain ⟨ns, hn, hl, hk⟩ := h
   unfold Oper.wp
   rw [St.eval_eq, convB_run hc hn hl]
   exact post_val hok hk
  ·cases h
 ·rename_i t x
  split at h
  ·rename_i hu
   obtain ⟨k1, k2, k3, k4, k5⟩ := kill_Ok [s.sv x] hok
   have h3 := post_of hok k2 k4 (post_val k1 h)
   rw [act_kill hok, k3] at h3
   exact ev (s' := Instr.makeInterface t (s.ev x)) rfl (makeIf_run hu _) h3
  ·cases h
 ·rename_i x xT a ok
  cases ok with
  | false =>
    simp only at h
    split at h
    ·rename_i hu
     obtain ⟨v, e, hk⟩ := T1.ex_out h
     refine ev (s' := Instr.typeAssert (s.ev x) xT a false) rfl ?_ (post_val hok hk)
     rw [e]; exact assert_run hu _
    ·cases h
  | true =>
    obtain ⟨v, h1, h2⟩ := asOkOp_post (xT := xT) hok h
    exact ev (s' := Instr.typeAssert (s.ev x) xT a true) rfl h1 h2
 ·rename_i t x
  obtain ⟨v, w', h1, h2⟩ := rangeOp_post hok h
  exact ev (s' := Instr.range t (s.ev x)) rfl h1 h2
 ·rename_i x isS
  split at h
  ·obtain ⟨v, w', h1, h2⟩ := nextOp_post (P := P) (ty := ty) hok h
   exact ev (s' := Instr.next (s.ev x) true ty) rfl h1 h2
  ·cases h
 ·rename_i x
  unfold panOp at h
  split at h
  ·cases h
  ·rename_i q hq
   split at h
   ·rename_i hdf
    split at h
    ·rename_i t v hx
     have hrun : (execOp s.ev (Oper.mk dst (.panic x) ty pos after guard)).run P s.w = .halt (.panic (.iface t v)) s.w := by
      show (do pure (Next.value (← Instr.panic (s.ev x))) : Sem Next).run P s.w = _
      rw [hx]
      rfl
     unfold Oper.wp
     rw [St.eval_eq, hrun]
     exact hQ q hq _ _ _ (by unfold St.act; rw [hdf]; rfl) h
    ·cases h
   ·cases h
 ·cases h
theorem vcOp_sound [PQ] (hQ : PQok Q) (hP : NoNG P) (hok : s.Ok) (h : vcOp P s o K) : o.wpY P s.act s.w (Post o.dst s K) Q := by
 have hd : ∀ c, o.op ≠ .defer c := by
  intro c e
  obtain ⟨dst, op, ty, pos, after, guard⟩ := o
  simp only at e
  subst e
  exact h.elim
 by_cases hy : ∃ x args ats l f c, o.op = .call ⟨.value x, args, ats⟩ ∧ s.ev x = .func (.yield l) f c
 ·obtain ⟨x, args, ats, l, f, c, e, hx⟩ := hy
  obtain ⟨dst, op, ty, pos, after, guard⟩ := o
  simp only at e
  subst e
  exact wpY_yield hQ hok hx h
 ·refine wpY_of_wp hd ?_
  unfold vcOp at h
  split at h
  ·rename_i cs sv hp; exact wp_pure hok hp h
  ·exact impOp_sound hQ hP hok (fun x args ats l f c e hx => hy ⟨x, args, ats, l, f, c, e, hx⟩) h
end
def withGuard (ops : Array Oper) (o : Oper) (s : St) (yes : St → Prop) (no : St → Prop) : Prop :=
 match o.guard with
 | none => yes s
 | some (j, want) => match (ops[j]?).bind (·.dst) with
   | some d => match s.sl.getD d (.val undef) with
     | .val (.bool b) => Br b (match want with | true => yes { s with sl := s.sl.set d (.val (.bool true)) } | false => no { s with sl := s.sl.set d (.val (.bool true)) })
       (match want with | true => no { s with sl := s.sl.set d (.val (.bool false)) } | false => yes { s with sl := s.sl.set d (.val (.bool false)) })
     | .val (.tuple _) => no s
     | _ => False
   | none => False
def vcG [PQ] (P : Program) (ops : Array Oper) (s : St) (o : Oper) (K : St → Prop) : Prop :=
 withGuard ops o s (fun s => vcOp P s o K) (fun s => K (s.put o.dst (.val undef)))
def vcList [PQ] (P : Program) (ops : Array Oper) : List Oper → St → (St → Prop) → Prop
 | [], s, K => K s
 | o :: r, s, K => vcG P ops s o fun s' => vcList P ops r s' K
def dstsOf (l : List Oper) : List Nat := l.filterMap (·.dst)
section
variable {P : Program} {s : St} {o : Oper} {K : St → Prop} {Q : Exit → Act → World → Prop} {ops : Array Oper}
structure Like (s s' : St) : Prop where
 act : s'.act = s.act
 w : s'.w = s.w
 ok : s'.Ok
 fr : Fr [] s s'
theorem Like.refl (h : s.Ok) : Like s s := ⟨rfl, rfl, h, Fr.refl _ _⟩
theorem like_set {d : Nat} {b : Bool} (hok : s.Ok) (h : s.sl.getD d (.val undef) = .val (.bool b)) : Like s { s with sl := s.sl.set d (.val (.bool b)) } := by
 have hd : s.sl[d]? = some (.val (.bool b)) := by
  rw [ali05] at h
  cases hh : s.sl[d]? with
  | none => rw [hh] at h; cases h
  | some v => rw [hh] at h; simp at h; rw [h]
 have : s.sl.set d (.val (.bool b)) = s.sl := by
  apply ali20
  intro i
  rw [ali33]
  split
  ·rename_i e; subst e
   split
   ·exact hd.symm
   ·rename_i hl; rw [ali13 omm] at hd; cases hd
  ·rfl
 rw [this]
 exact Like.refl hok
theorem guard_cases {yes no : St → Prop} (hok : s.Ok) (h : withGuard ops o s yes no) :
  (Region.wanted o (yielded ops s.act.tmps) = true ∧ ∃ s', Like s s' ∧ yes s') ∨ (Region.wanted o (yielded ops s.act.tmps) = false ∧ ∃ s', Like s s' ∧ no s') := by
 unfold withGuard at h
 split at h
 ·rename_i hg; exact .inl ⟨by simp [Region.wanted, hg], s, Like.refl hok, h⟩
 ·rename_i j want hg
  split at h
  ·rename_i d hd
   have hget : s.act.tmps[d]? = (s.sl[d]?).map (SV.conc s.kn) := by simp [St.act]
   split at h
   ·rename_i b hb
    have hs : s.sl[d]? = some (.val (.bool b)) := by
     rw [ali05] at hb
     cases hh : s.sl[d]? with
     | none => rw [hh] at hb; cases hb
     | some v => rw [hh] at hb; simp at hb; rw [hb]
    have hy : yielded ops s.act.tmps j = some b := by simp [yielded, hd, hget, hs, SV.conc]
    have hl := like_set hok hb
    cases b with
    | true =>
      have h := Br.tt h rfl
      cases want with
      | true => exact .inl ⟨by simp [Region.wanted, hg, hy], _, hl, h⟩
      | false => exact .inr ⟨by simp [Region.wanted, hg, hy], _, hl, h⟩
    | false =>
      have h := Br.ff h rfl
      cases want with
      | true => exact .inr ⟨by simp [Region.wanted, hg, hy], _, hl, h⟩
      | false => exact .inl ⟨by simp [Region.wanted, hg, hy], _, hl, h⟩
   ·rename_i b hb
    refine .inr ⟨?_, s, Like.refl hok, h⟩
    have hy : yielded ops s.act.tmps j = none := by
     rw [ali05] at hb
     cases hh : s.sl[d]? with
     | none => simp [yielded, hd, hget, hh]
     | some v => rw [hh] at hb; simp at hb; simp [yielded, hd, hget, hh, hb, SV.conc]
    simp [Region.wanted, hg, hy]
   ·cases h
  ·cases h
theorem Post.like {d : Option Tmp} {s1 : St} {a : Act} {w : World} (hl : Like s s1) (h : Post d s1 K a w) : Post d s K a w := by
 obtain ⟨s', h1, h2, h3, h4, h5⟩ := h
 exact ⟨s', h1, h2, h3, (hl.fr.mono smm).trans h4, h5⟩
theorem post_undef (hok : s.Ok) {d : Option Tmp} (h : K (s.put d (.val undef))) : Post d s K (s.act.put d undef) s.w := post_val hok h
theorem vcG_sound [PQ] (hQ : PQok Q) (hP : NoNG P) (hok : s.Ok) (h : vcG P ops s o K) :
  (Region.wanted o (yielded ops s.act.tmps) = true ∧ o.wpY P s.act s.w (Post o.dst s K) Q) ∨ (Region.wanted o (yielded ops s.act.tmps) = false ∧ Post o.dst s K (s.act.put o.dst undef) s.w) := by
 rcases guard_cases hok h with ⟨h1, s', hl, h2⟩ | ⟨h1, s', hl, h2⟩
 ·left
  refine ⟨h1, ?_⟩
  have := vcOp_sound (Q := Q) hQ hP hl.ok h2
  rw [hl.act, hl.w] at this
  exact Oper.wpY_mono (fun a w hp => Post.like hl hp) this
 ·right
  refine ⟨h1, ?_⟩
  have := post_undef hl.ok h2
  rw [hl.act, hl.w] at this
  exact Post.like hl this
def PostW (W : List Nat) (s : St) (K : St → Prop) : Act → World → Prop :=
 fun a w => ∃ s', s'.Ok ∧ s'.act = a ∧ s'.w = w ∧ Fr W s s' ∧ K s'
theorem toList_mem {d : Option Tmp} {l : List Nat} (h : ∀ x, d = some x → x ∈ l) : ∀ i ∈ d.toList, i ∈ l := by
 intro i hi; cases d with
 | none => cases hi
 | some x => simp at hi; subst hi; exact h _ rfl
def wpLY (P : Program) (ops : Array Oper) (Q : Exit → Act → World → Prop) : List Oper → Act → World → Prop
 | [], a, w => Q .normal a w
 | o :: r, a, w => if Region.wanted o (yielded ops a.tmps) then o.wpY P a w (wpLY P ops Q r) Q else wpLY P ops Q r (a.put o.dst undef) w
theorem wpLY_in {F : Fence} {n : Nat} (hF : Wd F) : ∀ (l : List Oper) (i : Nat) (a : Act) (w : World), (∀ j, j < l.length → ops[i + j]? = l[j]?) → wpLY P ops Q l a w → wpOpsIn F n P ops Q (List.range' i l.length) a w
 | [], i, a, w, _, h => h
 | o :: r, i, a, w, hl, h => by
   have ho : ops[i]? = some o := by simpa using hl 0 smm
   have hr : ∀ j, j < r.length → ops[i + 1 + j]? = r[j]? := fun j hj => by
    have := hl (j + 1) (by simpa using hj)
    rw [show i + 1 + j = i + (j + 1) by omega, this]; simp
   show wpOpsIn F n P ops Q (i :: List.range' (i + 1) r.length) a w
   rw [wpOpsIn_cons]
   unfold wpOpIn
   simp only [ho]
   unfold wpLY at h
   split
   ·rename_i hw
    rw [if_pos hw] at h
    exact wpIn_of_wpY hF (Oper.wpY_mono (fun a w hh => wpLY_in hF r (i + 1) a w hr hh) h)
   ·rename_i hw
    rw [if_neg hw] at h
    exact ⟨fun f _ => hF.fn f, wpLY_in hF r (i + 1) _ w hr h⟩
theorem vcList_sound [PQ] (hP : NoNG P) : ∀ (l : List Oper) (s : St) (Q : Exit → Act → World → Prop), PQok Q → s.Ok → vcList P ops l s K → (∀ a w, PostW (dstsOf l) s K a w → Q .normal a w) → wpLY P ops Q l s.act s.w
 | [], s, Q, hQ, hok, h, hq => hq _ _ ⟨s, hok, rfl, rfl, Fr.refl _ _, h⟩
 | o :: r, s, Q, hQ, hok, h, hq => by
   unfold wpLY
   have step : ∀ a w, Post o.dst s (fun s' => vcList P ops r s' K) a w → wpLY P ops Q r a w := by
    rintro a w ⟨s', h1, rfl, rfl, h4, h5⟩
    refine vcList_sound hP r s' Q hQ h1 h5 fun a w hp => hq a w ?_
    obtain ⟨s'', g1, g2, g3, g4, g5⟩ := hp
    refine ⟨s'', g1, g2, g3, (h4.mono (toList_mem fun x hx => ?_)).trans (g4.mono fun x hx => ?_), g5⟩
    ·simp [dstsOf, hx]
    ·simp only [dstsOf, List.filterMap_cons]
     split
     ·exact hx
     ·exact alj39 _ hx
   rcases vcG_sound (Q := Q) hQ hP hok h with ⟨h1, h2⟩ | ⟨h1, h2⟩
   ·rw [if_pos h1]; exact Oper.wpY_mono step h2
   ·rw [if_neg (by simp [h1])]; exact step _ _ h2
end
structure Pend where
 i : Nat
 p : Option Addr
 vs : List Value
def Pend.holds (q : Pend) (w : World) : Prop := LoadL w q.p 0 q.vs
def directly (o : Oper) (i : Nat) : Bool := o.after.any fun e => Region.binds .any e && e.on == i
def stays (ops : Array Oper) (j : Nat) (l : List Pend) : List Pend := l.filter fun q => match ops[j]? with | some o => !directly o q.i | none => true
section
variable {P : Program} {s : St} {o : Oper} {K : St → Prop} {Q : Exit → Act → World → Prop} {ops : Array Oper}
def wpOpY (P : Program) (ops : Array Oper) (Q : Exit → Act → World → Prop) (i : Nat) (K : Act → World → Prop) (a : Act) (w : World) : Prop :=
 match ops[i]? with
 | none => K a w
 | some o => if Region.wanted o (yielded ops a.tmps) then o.wpY P a w K Q else K (a.put o.dst undef) w
theorem wpOpY_mono {i : Nat} {a : Act} {w : World} {K K' : Act → World → Prop} (h : ∀ a w, K a w → K' a w) (hh : wpOpY P ops Q i K a w) : wpOpY P ops Q i K' a w := by
 unfold wpOpY at *
 split
 ·exact h _ _ (by simpa [*] using hh)
 ·rename_i o ho
  simp only [ho] at hh
  split
  ·rename_i hw; simp only [hw, if_true] at hh; exact Oper.wpY_mono h hh
  ·rename_i hw; simp only [hw] at hh; exact h _ _ hh
theorem wpOpY_in {F : Fence} {n : Nat} (hF : Wd F) {i : Nat} {a : Act} {w : World} {K : Act → World → Prop} (hh : wpOpY P ops Q i K a w) : wpOpIn F n P ops Q i K a w := by
 unfold wpOpY at hh
 unfold wpOpIn
 split
 ·simpa [*] using hh
 ·rename_i o ho
  simp only [ho] at hh
  split
  ·rename_i hw; simp only [hw, if_true] at hh; exact wpIn_of_wpY hF hh
  ·rename_i hw; simp only [hw] at hh; exact ⟨fun f _ => hF.fn f, hh⟩
def wpP (P : Program) (ops : Array Oper) (Q : Exit → Act → World → Prop) : Nat → List Pend → Array Bool → Act → World → Prop
 | 0, _, listed, a, w => Region.ready .any ops listed = [] ∧ Q .normal a w
 | fuel + 1, l, listed, a, w =>
   (Region.ready .any ops listed = [] → Q .normal a w) ∧
   ∀ j ∈ Region.ready .any ops listed, wpOpY P ops Q j (fun a' w' => (∀ q ∈ stays ops j l, q.holds w') ∧ wpP P ops Q fuel (stays ops j l) (listed.setIfInBounds j true) a' w') a w
theorem wpP_any {F : Fence} {n : Nat} (hF : Wd F) : ∀ (fuel : Nat) (l : List Pend) (listed : Array Bool) (a : Act) (w : World), wpP P ops Q fuel l listed a w → wpAnyIn F n P .any ops Q fuel listed a w
 | 0, _, _, _, _, h => h
 | fuel + 1, l, listed, a, w, h => ⟨h.1, fun j hj => wpOpY_in hF (wpOpY_mono (fun a' w' hk => wpP_any hF fuel _ _ _ _ hk.2) (h.2 j hj))⟩
theorem stays_mem {j : Nat} {l : List Pend} {q : Pend} (h : q ∈ stays ops j l) : q ∈ l := (alj40.1 h).1
theorem wpP_weaken : ∀ (fuel : Nat) (l l' : List Pend) (listed : Array Bool) (a : Act) (w : World), (∀ q ∈ l', q ∈ l) → wpP P ops Q fuel l listed a w → wpP P ops Q fuel l' listed a w
 | 0, _, _, _, _, _, _, h => h
 | fuel + 1, l, l', listed, a, w, hs, h => ⟨h.1, fun j hj => wpOpY_mono (fun a' w' hk => by
   have : ∀ q ∈ stays ops j l', q ∈ stays ops j l := fun q hq => alj40.2 ⟨hs q (stays_mem hq), (alj40.1 hq).2⟩
   exact ⟨fun q hq => hk.1 q (this q hq), wpP_weaken fuel _ _ _ _ _ this hk.2⟩) (h.2 j hj)⟩
def YieldsC (P : Program) (ops : Array Oper) (C : World → Prop) (o : Oper) (v : Value) (a : Act) : Prop :=
 (Region.wanted o (yielded ops a.tmps) = true ∧ ∀ w, C w → (execOp a.eval o).run P w = .ok (.value v) w) ∨
 (Region.wanted o (yielded ops a.tmps) = false ∧ v = undef)
theorem YieldsC.wpOp {C : World → Prop} {i : Nat} {o : Oper} {v : Value} {a : Act} (hi : ops[i]? = some o) (hnd : ∀ c, o.op ≠ .defer c) (hy : YieldsC P ops C o v a)
  {K : Act → World → Prop} {w : World} (hC : C w) (h : K (a.put o.dst v) w) : wpOpY P ops Q i K a w := by
 unfold wpOpY
 simp only [hi]
 rcases hy with ⟨hw, hv⟩ | ⟨hw, rfl⟩
 ·simp only [hw, if_true]; exact ⟨hnd, by rw [hv w hC]; exact h⟩
 ·simp only [hw, Bool.false_eq_true, if_false]; exact h
theorem YieldsC.of_same {C : World → Prop} {o : Oper} {v : Value} {a a' : Act} (hy : YieldsC P ops C o v a) (he : execOp a'.eval o = execOp a.eval o)
  (hw : Region.wanted o (yielded ops a'.tmps) = Region.wanted o (yielded ops a.tmps)) : YieldsC P ops C o v a' := by
 unfold YieldsC at *
 rw [he, hw]
 exact hy
theorem wpOp_putC {C : World → Prop} {j : Nat} {oi oj : Oper} {v : Value} (hj : ops[j]? = some oj) (hap : oi.apart ops oj = true)
  (hsi : ∀ cs b, oi.op ≠ .select cs b) (hsj : ∀ cs b, oj.op ≠ .select cs b)
  (hQ : ∀ c a w, Q (.panic c) (a.put oi.dst v) w → Q (.panic c) a w) {K : Act → World → Prop} {a : Act} {w : World}
  (hy : YieldsC P ops C oi v a) (h : wpOpY P ops Q j K (a.put oi.dst v) w) :
  wpOpY P ops Q j (fun a' w' => YieldsC P ops C oi v a' ∧ K (a'.put oi.dst v) w') a w := by
 obtain ⟨h1, h2, h3⟩ := Oper.apart_spec hap
 have keep : ∀ (a : Act), YieldsC P ops C oi v a → ∀ u, YieldsC P ops C oi v (a.put oj.dst u) := fun a hy u =>
  hy.of_same (execOp_put oi hsi a oj.dst u h3) (wanted_put oi a oj.dst u h3)
 have keepD : ∀ d, YieldsC P ops C oi v { a with defers := d :: a.defers } := fun d => hy.of_same rfl rfl
 unfold wpOpY at *
 simp only [hj] at *
 rw [wanted_put oj a oi.dst v h1] at h
 split
 ·rename_i hw
  simp only [hw, if_true] at h
  refine ⟨h.1, ?_⟩
  have h := h.2
  rw [execOp_put oj hsj a oi.dst v h1] at h
  generalize (execOp a.eval oj).run P w = r at *
  cases r with
  | ok n w' =>
    cases n <;> simp only [Oper.uponIn] at h ⊢
    case value u => exact ⟨keep a hy u, by rw [← Act.put_comm a v u h2]; exact h⟩
    case skip => exact ⟨keep a hy _, by rw [← Act.put_comm a v undef h2]; exact h⟩
    case defer d =>
     refine ⟨keep _ (keepD d) _, ?_⟩
     rw [← Act.put_comm _ v undef h2, ← Act.put_defers]
     exact h
    case enter f args =>
     refine ⟨h.1, CallsIn.mono h.2 fun e w'' he => ?_⟩
     cases e with
     | returned u => exact ⟨keep a hy u, by rw [← Act.put_comm a v u h2]; exact he⟩
     | panicked c => exact hQ _ _ _ he
     | outgrown => exact he
    case row row args => exact ⟨h.1, RowsIn.mono h.2 fun u w'' he => ⟨keep a hy u, by rw [← Act.put_comm a v u h2]; exact he⟩⟩
    case round l f tmps assign body =>
     refine ⟨h.1, RoundIn.mono h.2 fun e w'' he => ?_⟩
     cases e with
     | returned u => exact ⟨keep a hy u, by rw [← Act.put_comm a v u h2]; exact he⟩
     | panicked c => exact hQ _ _ _ he
     | outgrown => exact he
  | halt x w' =>
    cases x <;> simp only [Oper.uponIn] at h ⊢
    case panic u => exact hQ _ _ _ h
 ·rename_i hw
  simp only [hw] at h
  exact ⟨keep a hy _, by rw [← Act.put_comm a v undef h2]; exact h⟩
theorem wpP_first {q : Pend} {oi : Oper} {v : Value} (hi : ops[q.i]? = some oi) (hnd : ∀ c, oi.op ≠ .defer c) (hsel : ∀ (j : Nat) (o : Oper) cs b, ops[j]? = some o → o.op ≠ .select cs b)
  (hQ : ∀ c a w, Q (.panic c) (a.put oi.dst v) w → Q (.panic c) a w) :
  ∀ (fuel : Nat) (l : List Pend) (listed : Array Bool) (a : Act) (w : World),
   (∀ j oj, ops[j]? = some oj → j ≠ q.i → listed.getD j true = false → (∀ e ∈ oj.after, Region.binds .any e = true → e.on ≠ q.i) → oi.apart ops oj = true) →
   q.i ∈ Region.ready .any ops listed → YieldsC P ops q.holds oi v a → q.holds w →
   wpP P ops Q fuel (q :: l) (listed.setIfInBounds q.i true) (a.put oi.dst v) w → (∀ x ∈ l, x.holds w) → wpP P ops Q (fuel + 1) l listed a w := by
 intro fuel
 induction fuel with
 | zero =>
   intro l listed a w _ hr hy hh H hl
   refine ⟨fun h => (by rw [h] at hr; cases hr), fun j hj => ?_⟩
   by_cases hji : j = q.i
   ·subst hji; exact hy.wpOp hi hnd hh ⟨fun x hx => hl x (stays_mem hx), H⟩
   ·have := ready_mono hj hji
    rw [H.1] at this
    cases this
 | succ fuel ih =>
   intro l listed a w hfree hr hy hh H hl
   refine ⟨fun h => (by rw [h] at hr; cases hr), fun j hj => ?_⟩
   by_cases hji : j = q.i
   ·subst hji
    exact hy.wpOp hi hnd hh ⟨fun x hx => hl x (stays_mem hx), wpP_weaken _ _ _ _ _ _ (fun x hx => alj39 _ (stays_mem hx)) H⟩
   ·have h1 := H.2 j (ready_mono hj hji)
    obtain ⟨hjun, oj, hoj, hall⟩ := mem_ready.1 hj
    have hnot : ∀ e ∈ oj.after, Region.binds .any e = true → e.on ≠ q.i := fun e he hb heq => by
     have h1 := hall e he hb
     have h0 := (mem_ready.1 hr).1
     rw [heq] at h1
     rcases alj62 q.i listed.size with h' | h'
     ·simp [h'] at h0 h1; rw [h0] at h1; cases h1
     ·simp [Array.getElem?_eq_none h'] at h1
    have hst : stays ops j (q :: l) = q :: stays ops j l := by
     unfold stays
     rw [alj16]
     simp only [hoj]
     rw [if_pos]
     simp only [directly, Bool.not_eq_true']
     rw [Array.any_eq_false']
     intro e he hx
     simp only [ali39, beq_iff_eq] at hx
     exact hnot e he hx.1 hx.2
    rw [hst] at h1
    have h2 := wpOp_putC hoj (hfree j oj hoj hji hjun hnot) (fun cs b => hsel q.i oi cs b hi) (fun cs b => hsel j oj cs b hoj) hQ hy h1
    have hfree' : ∀ k ok, ops[k]? = some ok → k ≠ q.i → (listed.setIfInBounds j true).getD k true = false →
      (∀ e ∈ ok.after, Region.binds .any e = true → e.on ≠ q.i) → oi.apart ops ok = true := fun k ok hk hki hun hno => by
     refine hfree k ok hk hki ?_ hno
     by_cases hjk : j = k
     ·subst hjk; exact hjun
     ·rw [Go.getD_set_ne true hjk] at hun; exact hun
    refine wpOpY_mono (fun a' w' h3 => ?_) h2
    obtain ⟨g1, g2, g3⟩ := h3
    refine ⟨fun x hx => g2 x (alj39 _ hx), ih (stays ops j l) (listed.setIfInBounds j true) a' w' hfree' (ready_mono hr (Ne.symm hji)) g1 (g2 q (.head _)) ?_ (fun x hx => g2 x (alj39 _ hx))⟩
    rw [Array.setIfInBounds_comm _ _ hji]
    exact g3
end
def AndA : List Nat → (Nat → Prop) → Prop
 | [], _ => True
 | [j], F => F j
 | j :: k :: r, F => F j ∧ AndA (k :: r) F
theorem AndA_all : ∀ {l : List Nat} {F : Nat → Prop}, AndA l F → ∀ j ∈ l, F j
 | [], _, _, j, h => by cases h
 | [a], _, h, j, hj => by
   have : j = a := by simpa using hj
   subst this; exact h
 | a :: b :: r, F, h, j, hj => by
   cases hj with
   | head => exact h.1
   | tail _ hm => exact AndA_all h.2 j hm
def freeKind : Op → Bool
 | .move _ | .pick .. | .extract .. | .fieldAddr .. | .field .. | .nilCheck _ | .indexAddr .. | .index .. | .binOp .. | .unOp .. | .convert .. | .slice .. | .load .. => true
 | .call { callee := .builtin .len, .. } | .call { callee := .builtin .cap, .. } | .call { callee := .builtin .min, .. } | .call { callee := .builtin .max, .. } => true
 | _ => false
def strIdx (P : Program) : Op → Bool
 | .index t _ _ => isStr P t
 | _ => true
def freeAt (P : Program) (ops : Array Oper) (listed : Array Bool) (i : Nat) : Bool :=
 match ops[i]? with
 | some o => match freeKind o.op && strIdx P o.op with | true => Region.free .any ops listed i | false => false
 | none => false
def loadV2 (P : Program) (w : World) (p : Option Addr) (t : TypeId) (F : List Value → Value → Prop) : Prop :=
 match t1Of P t with
 | .sc c => c.ex fun v => ld w p = some v ∧ F [v] v
 | .agg l => if l.length = sizeAt P t ∧ l.isEmpty = false then exL l fun vs => LoadL w p 0 vs ∧ F vs (.agg vs.toArray) else False
def loadOp2 (P : Program) (s : St) (d : Option Tmp) (t : TypeId) (x : SV) (K : Option Addr → List Value → St → Prop) : Prop :=
 match x with
 | .loc k off => match s.known k with
   | some kb => match t1Of P t with
     | .sc _ => match kb.cells[off]? with | some v => K (some ⟨kb.idx, off, none⟩) [v] (s.put d (.val v)) | none => False
     | .agg l => if l.length = sizeAt P t ∧ off + l.length ≤ kb.cells.length then K (some ⟨kb.idx, off, none⟩) ((kb.cells.drop off).take l.length) (s.put d (.val (.agg ((kb.cells.drop off).take l.length).toArray))) else False
   | none => loadV2 P s.w (some ⟨(s.kn.getD k default).idx, off, none⟩) t fun vs v => K (some ⟨(s.kn.getD k default).idx, off, none⟩) vs (s.put d (.val v))
 | .val (.pointer p) => loadV2 P s.w p t fun vs v => K p vs (s.put d (.val v))
 | _ => False
def freeStep (P : Program) (l : List Pend) (i : Nat) (o : Oper) (s : St) (K : List Pend → St → Prop) : Prop :=
 match o.op with
 | .load t x => match okT P t with | true => loadOp2 P s o.dst t (s.sv x) fun p vs s' => K (⟨i, p, vs⟩ :: l) s' | false => False
 | _ => match convB P s o.op with
   | some (a, n) => ∃ ns : List Int, ns.length = n ∧ LoadL s.w a 0 (ns.map (Value.int .u8)) ∧ K (⟨i, a, ns.map (Value.int .u8)⟩ :: l) (s.put o.dst (.val (.string (strOfNums ns))))
   | none => match pureOp P s o.op with
     | some (cs, sv) => AndL cs (K l (s.put o.dst sv))
     | none => False
def quiet (P : Program) (s : St) (o : Oper) : Bool :=
 match o.op with
 | .box .. | .alloc .. | .buildSlice .. | .build .. | .makeFunc .. => true
 | _ => match pureOp P s o.op with | some _ => true | none => false
def reloads (P : Program) (s : St) (o : Oper) (l : List Pend) (w' : World) : List Prop :=
 match quiet P s o with
 | true => []
 | false => l.map fun q => q.holds w'
def vcD [PQ] (P : Program) (ops : Array Oper) (K : St → Prop) : Nat → List Pend → Array Bool → St → Prop
 | 0, _, listed, s => match Region.ready .any ops listed with | [] => K s | _ => False
 | fuel + 1, l, listed, s =>
   match (Region.ready .any ops listed).find? (freeAt P ops listed) with
   | some i => match ops[i]? with
     | some o => withGuard ops o s (fun s => freeStep P l i o s fun l' s' => vcD P ops K fuel l' (listed.setIfInBounds i true) s')
       (fun s => vcD P ops K fuel l (listed.setIfInBounds i true) (s.put o.dst (.val undef)))
     | none => False
   | none => match Region.ready .any ops listed with
     | [] => K s
     | js => AndA js fun j => match ops[j]? with
       | some o => withGuard ops o s (fun s => vcOp P s o fun s' => AndL (reloads P s o (stays ops j l) s'.w) (vcD P ops K fuel (stays ops j l) (listed.setIfInBounds j true) s'))
         (fun s => vcD P ops K fuel (stays ops j l) (listed.setIfInBounds j true) (s.put o.dst (.val undef)))
       | none => False
section
variable {P : Program} {s : St} {o : Oper} {K : St → Prop} {Q : Exit → Act → World → Prop} {ops : Array Oper}
def Grow (w w' : World) : Prop := ∀ a v, w.cell? a = some v → w'.cell? a = some v
theorem Grow.refl (w : World) : Grow w w := fun _ _ h => h
theorem Grow.alloc (w : World) (ob : Obj) : Grow w (w.alloc ob) := fun a v h => by
 rw [World.cell?_alloc_lt]; exact h
 unfold World.cell? at h
 split at h
 ·rename_i c e f hb; exact (ali22.1 hb).1
 ·cases h
theorem Grow.ld {w w' : World} (h : Grow w w') {p : Option Addr} {v : Value} (hl : ld w p = some v) : ld w' p = some v := by
 cases p with
 | none => simp [Vc.ld] at hl
 | some a => exact h a v hl
theorem Grow.LoadL {w w' : World} (h : Grow w w') {p : Option Addr} : ∀ {i : Nat} {vs : List Value}, LoadL w p i vs → LoadL w' p i vs
 | _, [], _ => trivial
 | _, [_], hl => h.ld hl
 | _, _ :: _ :: _, hl => ⟨h.ld hl.1, h.LoadL hl.2⟩
theorem wp_and {a : Act} {w w' : World} {v : Value} {K' : Act → World → Prop} {G : World → Prop} (hr : (execOp a.eval o).run P w = .ok (.value v) w') (hg : G w')
  (h : o.wpY P a w K' Q) : o.wpY P a w (fun a' w'' => K' a' w'' ∧ G w'') Q := by
 obtain ⟨h1, h⟩ := h
 refine ⟨h1, ?_⟩
 rw [hr] at h ⊢
 exact ⟨h, hg⟩
theorem quiet_run [PQ] (hok : s.Ok) (hq : quiet P s o = true) (h : vcOp P s o K) : ∃ v w', (execOp s.act.eval o).run P s.w = .ok (.value v) w' ∧ Grow s.w w' := by
 rw [St.eval_eq]
 unfold vcOp at h
 split at h
 ·rename_i cs sv hp
  rw [AndL_iff] at h
  exact ⟨_, _, pureOp_gives hp h.1 _, Grow.refl _⟩
 ·rename_i hp
  obtain ⟨dst, op, ty, pos, after, guard⟩ := o
  unfold quiet at hq
  simp only at hq h hp
  cases op with
  | box t x => exact ⟨_, _, by
    show (do pure (Next.value (← Instr.box t (s.ev x))) : Sem Next).run P s.w = _
    rw [Sem.run_bind, box_run]; rfl, Grow.alloc _ _⟩
  | alloc t =>
    unfold impOp at h
    simp only at h
    split at h
    ·rename_i cs hz
     exact ⟨_, _, by
      show (do pure (Next.value (← Instr.alloc t true (.tuple #[]))) : Sem Next).run P s.w = _
      rw [Sem.run_bind, alloc_run hz]; rfl, Grow.alloc _ _⟩
    ·cases h
  | build t parts =>
    unfold impOp at h
    simp only at h
    split at h
    ·rename_i cs hb
     exact ⟨_, _, by
      show (do pure (Next.value (← Instr.build t (parts.map fun (i, x) => (i, s.ev x)))) : Sem Next).run P s.w = _
      rw [Sem.run_bind, run_build _ _ _ cs (by simpa using hb)]; rfl, Grow.refl _⟩
    ·cases h
  | buildSlice t len parts =>
    unfold impOp at h
    simp only at h
    unfold buildSliceOp at h
    split at h
    ·rename_i e cells hc
     exact ⟨_, _, by
      show (do pure (Next.value (← Instr.buildSlice t len (evParts s parts))) : Sem Next).run P s.w = _
      rw [Sem.run_bind, buildSliceC_run hc s.w]; rfl, Grow.alloc _ _⟩
    ·cases h
  | makeFunc fn first captured => exact ⟨.func fn (first.map s.ev) (captured.map s.ev), s.w, rfl, Grow.refl _⟩
  | _ => simp [hp] at hq
theorem padd_zero (p : Option Addr) : padd p 0 = p := by cases p <;> simp [padd, Addr.add]
theorem loadV2_run {t : TypeId} {p : Option Addr} {F : List Value → Value → Prop} {w : World} (hu : (P.underlying t).isSome = true) (h : loadV2 P w p t F) :
  ∃ a vs v, p = some a ∧ F vs v ∧ LoadL w p 0 vs ∧ ∀ w', LoadL w' p 0 vs → (Instr.loadAt t (.pointer (some a))).run P w' = .ok v w' := by
 obtain ⟨d, hu⟩ := ali29.1 hu
 unfold loadV2 at h
 cases ht : t1Of P t with
 | sc c =>
   rw [ht] at h
   obtain ⟨v, h1, h2⟩ := S.ex_out h
   cases p with
   | none => simp [ld] at h1
   | some a =>
     refine ⟨a, [v], v, rfl, h2, by simpa [LoadL, padd_zero] using h1, fun w' hw' => ?_⟩
     have h1' : w'.cell? a = some v := by simpa [LoadL, padd_zero, ld] using hw'
     simp [Instr.loadAt, Instr.sureAddr, loadVar, isAg_run w' hu, t1_sc ht, h1']
 | agg l =>
   simp only [ht] at h
   split at h
   ·rename_i hl
    have : ∃ vs, vs.length = l.length ∧ LoadL w p 0 vs ∧ F vs (.agg vs.toArray) := by
     have key : ∀ (l : List S) (G : List Value → Prop), exL l G → ∃ vs, vs.length = l.length ∧ G vs := by
      intro l
      induction l with
      | nil => intro G hG; exact ⟨[], rfl, hG⟩
      | cons c r ih =>
        rintro G ⟨x, hx⟩
        obtain ⟨vs, h1, h2⟩ := ih _ hx
        exact ⟨_, by simp [h1], h2⟩
     exact key l _ h
    obtain ⟨vs, e, h1, h2⟩ := this
    have hi := info_of_underlying hu
    have hp : ∃ a, p = some a := by
     cases p with
     | some a => exact ⟨a, rfl⟩
     | none =>
       have h0 : 0 < vs.length := by
        cases l with
        | nil => simp at hl
        | cons _ _ => simp at e; omega
       have := LoadL_at h1 0 h0
       simp [ld, padd, ali04 h0] at this
    obtain ⟨a, rfl⟩ := hp
    refine ⟨a, vs, _, rfl, h2, h1, fun w' hw' => ?_⟩
    simp only [Instr.loadAt, Instr.sureAddr, loadVar, Sem.run_bind, Sem.run_pure, Result.andThen_ok, isAg_run w' hu, t1_agg ht, if_true, sizeOf_run hi, loadCells]
    rw [loadCells_run _ 0 #[] vs omm (fun j hj => by have := LoadL_at hw' j omm; simpa [ld, padd] using this)]
    simp
   ·cases h
theorem LoadL_cells {w : World} {p : Option Addr} : ∀ {i : Nat} {vs : List Value}, (∀ j, j < vs.length → ld w (padd p (i + j)) = vs[j]?) → LoadL w p i vs
 | _, [], _ => trivial
 | i, [v], h => by have := h 0 smm; simpa [LoadL] using this
 | i, v :: u :: r, h => ⟨by have := h 0 smm; simpa using this, LoadL_cells fun j hj => by
   have := h (j + 1) (by simpa using hj)
   rw [show i + (j + 1) = i + 1 + j by omega] at this
   rw [this]; simp⟩
theorem loadOp2_run {d : Option Tmp} {t : TypeId} {x : SV} {K2 : Option Addr → List Value → St → Prop} (hok : s.Ok) (hu : (P.underlying t).isSome = true) (h : loadOp2 P s d t x K2) :
  ∃ a vs v, x.conc s.kn = .pointer (some a) ∧ K2 (some a) vs (s.put d (.val v)) ∧ LoadL s.w (some a) 0 vs ∧ ∀ w', LoadL w' (some a) 0 vs → (Instr.loadAt t (.pointer (some a))).run P w' = .ok v w' := by
 unfold loadOp2 at h
 split at h
 ·rename_i k off
  split at h
  ·rename_i kb hkb
   obtain ⟨h1, h2⟩ := known_some hkb
   have hb := hok.blk k kb h1 h2
   have hidx : (s.kn.getD k default).idx = kb.idx := by simp [ali05, h1]
   obtain ⟨dd, hu'⟩ := ali29.1 hu
   split at h
   ·rename_i c ht
    split at h
    ·rename_i v hv
     refine ⟨⟨kb.idx, off, none⟩, [v], v, by rw [SV.conc, hidx], h, ?_, fun w' hw' => ?_⟩
     ·simp [LoadL, padd_zero, ld, cell_of hb, hv]
     ·have h1' : w'.cell? ⟨kb.idx, off, none⟩ = some v := by simpa [LoadL, padd_zero, ld] using hw'
      simp [Instr.loadAt, Instr.sureAddr, loadVar, isAg_run _ hu', t1_sc ht, h1']
    ·cases h
   ·rename_i l ht
    split at h
    ·rename_i hl
     have hlen : ((kb.cells.drop off).take l.length).length = l.length := by simp; omega
     refine ⟨⟨kb.idx, off, none⟩, (kb.cells.drop off).take l.length, _, by rw [SV.conc, hidx], h, ?_, fun w' hw' => ?_⟩
     ·refine LoadL_cells fun j hj => ?_
      rw [hlen] at hj
      simp [ld, padd, add_loc, cell_of hb, alj29, alj24, hj]
     ·simp only [Instr.loadAt, Instr.sureAddr, loadVar, Sem.run_bind, Sem.run_pure, Result.andThen_ok, isAg_run _ hu', t1_agg ht, if_true, sizeOf_run (info_of_underlying hu'), loadCells]
      rw [loadCells_run _ 0 #[] ((kb.cells.drop off).take l.length) omm (fun j hj => by have := LoadL_at hw' j omm; simpa [ld, padd] using this)]
      simp
    ·cases h
  ·obtain ⟨a, vs, v, h1, h2, h3, h4⟩ := loadV2_run hu h
   cases h1
   exact ⟨_, vs, v, rfl, h2, h3, h4⟩
 ·rename_i p
  obtain ⟨a, vs, v, h1, h2, h3, h4⟩ := loadV2_run hu h
  subst h1
  exact ⟨a, vs, v, rfl, h2, h3, h4⟩
 ·cases h
end
section
variable {P : Program} {s : St} {o : Oper} {K : St → Prop} {Q : Exit → Act → World → Prop} {ops : Array Oper}
theorem wpP_triv {q : Pend} (hq : ∀ w, q.holds w) : ∀ (fuel : Nat) (l : List Pend) (listed : Array Bool) (a : Act) (w : World), wpP P ops Q fuel l listed a w → wpP P ops Q fuel (q :: l) listed a w
 | 0, _, _, _, _, h => h
 | fuel + 1, l, listed, a, w, h => ⟨h.1, fun j hj => wpOpY_mono (fun a' w' hk => by
   have hst : stays ops j (q :: l) = q :: stays ops j l ∨ stays ops j (q :: l) = stays ops j l := by
    unfold stays; rw [alj16]; split <;> simp
   rcases hst with e | e
   ·rw [e]
    refine ⟨fun x hx => ?_, wpP_triv hq fuel _ _ _ _ hk.2⟩
    cases hx with
    | head => exact hq _
    | tail _ hm => exact hk.1 x hm
   ·rw [e]; exact hk) (h.2 j hj)⟩
theorem freeKind_nd {op : Op} (h : freeKind op = true) : ∀ c, op ≠ .defer c := by
 rintro c rfl; cases h
theorem find_mem {l : List Nat} {f : Nat → Bool} {i : Nat} (h : l.find? f = some i) : i ∈ l ∧ f i = true := ⟨alj42 h, List.find?_some h⟩
def Qr [PQ] (W : List Nat) (s0 : St) (K : St → Prop) : Exit → Act → World → Prop
 | .normal, a, w => PostW W s0 K a w
 | .panic c, a, w => ∃ q, PQ.q = some q ∧ a.defers = [] ∧ q c w
 | _, _, _ => False
theorem Qr_ok [PQ] (W : List Nat) (s0 : St) (K : St → Prop) : PQok (Qr W s0 K) := fun q hq _ _ _ hd hc => ⟨q, hq, hd, hc⟩
theorem put_df (a : Act) (d : Option Tmp) (v : Value) : (a.put d v).defers = a.defers := by cases d <;> rfl
theorem vcD_sound [PQ] (hP : NoNG P) (hsel : Region.noSelect ops = true) (W : List Nat) (s0 : St) (hW : ∀ (j : Nat) (o : Oper) d, ops[j]? = some o → o.dst = some d → d ∈ W) :
  ∀ (fuel : Nat) (l : List Pend) (listed : Array Bool) (s : St), s.Ok → Fr W s0 s → (∀ q ∈ l, q.holds s.w) → vcD P ops K fuel l listed s → wpP P ops (Qr W s0 K) fuel l listed s.act s.w
 | 0, l, listed, s, hok, hfr, hl, h => by
   unfold vcD at h
   split at h
   ·rename_i hr; exact ⟨hr, s, hok, rfl, rfl, hfr, h⟩
   ·cases h
 | fuel + 1, l, listed, s, hok, hfr, hl, h => by
   unfold vcD at h
   have hdst : ∀ {j : Nat} {o : Oper}, ops[j]? = some o → ∀ i ∈ o.dst.toList, i ∈ W := fun {j o} ho => toList_mem fun x hx => hW j o x ho hx
   split at h
   ·rename_i i hfind
    obtain ⟨hmem, hfree⟩ := find_mem hfind
    unfold freeAt at hfree
    split at h
    ·rename_i o ho
     rw [ho] at hfree
     simp only at hfree
     split at hfree
     case h_2 => cases hfree
     rename_i hkind2
     have hkind := (ali39 _ _ ▸ hkind2).1
     have hspec := Region.free_spec ho hfree
     have first : ∀ (q : Pend) (v : Value) (s' : St), q.i = i → YieldsC P ops q.holds o v s.act → q.holds s.w → s'.Ok → Fr W s0 s' → s'.act = s.act.put o.dst v → s'.w = s.w →
       wpP P ops (Qr W s0 K) fuel (q :: l) (listed.setIfInBounds i true) s'.act s'.w → wpP P ops (Qr W s0 K) (fuel + 1) l listed s.act s.w := by
      rintro q v s' rfl hy hh h1 h2 h3 h4 H
      rw [h3, h4] at H
      exact wpP_first ho (freeKind_nd hkind) (fun j o cs b => Region.noSelect_spec hsel j o cs b) (fun c a w hq => by obtain ⟨q, h1, h2, h3⟩ := hq; exact ⟨q, h1, by rw [← h2, put_df], h3⟩) fuel l listed s.act s.w (fun j oj => hspec j oj) hmem hy hh H hl
     rcases guard_cases hok h with ⟨hw, s1, hlk, h1⟩ | ⟨hw, s1, hlk, h1⟩
     ·unfold freeStep at h1
      have hfr1 : Fr W s0 s1 := hfr.trans (hlk.fr.mono smm)
      split at h1
      ·rename_i t x hop
       split at h1
       case h_2 => cases h1
       rename_i hu
       obtain ⟨a, vs, v, g1, g2, g3, g4⟩ := loadOp2_run hlk.ok (okT_true hu) h1
       obtain ⟨s2, k1, k2, k3, k4, k5⟩ := post_val (d := o.dst) (v := v) (K := fun s' => vcD P ops K fuel (⟨i, some a, vs⟩ :: l) (listed.setIfInBounds i true) s') hlk.ok g2
       rw [hlk.act] at k2
       rw [hlk.w] at k3 g3
       refine first ⟨i, some a, vs⟩ v s2 rfl (.inl ⟨hw, fun w' hw' => ?_⟩) g3 k1 (hfr1.trans (k4.mono (hdst ho))) k2 k3 ?_
       ·rw [← hlk.act, St.eval_eq]
        have : execOp s1.ev o = (do pure (.value (← Instr.loadAt t (s1.ev x)))) := by
         obtain ⟨dst, op, ty, pos, after, guard⟩ := o
         simp only at hop; subst hop; rfl
        rw [this, Sem.run_bind, St.ev, g1, g4 w' hw']; rfl
       ·exact vcD_sound hP hsel W s0 hW fuel _ _ s2 k1 (hfr1.trans (k4.mono (hdst ho))) (fun q hq => by
         cases hq with
         | head => rw [k3]; exact g3
         | tail _ hm => rw [k3]; exact hl q hm) k5
      ·split at h1
       ·rename_i a n hc
        obtain ⟨ns, hn, g3, h1⟩ := h1
        obtain ⟨s2, k1, k2, k3, k4, k5⟩ := post_val (d := o.dst) (v := .string (strOfNums ns)) (K := fun s' => vcD P ops K fuel (⟨i, a, ns.map (Value.int .u8)⟩ :: l) (listed.setIfInBounds i true) s') hlk.ok h1
        rw [hlk.act] at k2
        rw [hlk.w] at k3 g3
        refine first ⟨i, a, ns.map (Value.int .u8)⟩ (.string (strOfNums ns)) s2 rfl (.inl ⟨hw, fun w' hw' => ?_⟩) g3 k1 (hfr1.trans (k4.mono (hdst ho))) k2 k3 ?_
        ·rw [← hlk.act, St.eval_eq]
         exact convB_run hc hn hw'
        ·exact vcD_sound hP hsel W s0 hW fuel _ _ s2 k1 (hfr1.trans (k4.mono (hdst ho))) (fun q hq => by
          cases hq with
          | head => rw [k3]; exact g3
          | tail _ hm => rw [k3]; exact hl q hm) k5
       split at h1
       ·rename_i cs sv hp
        rw [AndL_iff] at h1
        obtain ⟨s2, k1, k2, k3, k4, k5⟩ := post_put (a := s1.act.put o.dst (sv.conc s1.kn)) (w := s1.w) (d := o.dst) (K := fun s' => vcD P ops K fuel l (listed.setIfInBounds i true) s') h1.2 hlk.ok rfl (Idx.refl _) hlk.ok.blk hlk.ok.ne (pureOp_inB hlk.ok hp) rfl rfl
        rw [hlk.act] at k2
        rw [hlk.w] at k3
        refine first ⟨i, none, []⟩ (sv.conc s1.kn) s2 rfl (.inl ⟨hw, fun w' _ => ?_⟩) trivial k1 (hfr1.trans (k4.mono (hdst ho))) k2 k3 ?_
        ·rw [← hlk.act, St.eval_eq]; exact pureOp_gives hp h1.1 w'
        ·exact wpP_triv (q := ⟨i, none, []⟩) (fun _ => trivial) _ _ _ _ _ (vcD_sound hP hsel W s0 hW fuel _ _ s2 k1 (hfr1.trans (k4.mono (hdst ho))) (fun q hq => by rw [k3]; exact hl q hq) k5)
       ·cases h1
     ·have hfr1 : Fr W s0 s1 := hfr.trans (hlk.fr.mono smm)
      obtain ⟨s2, k1, k2, k3, k4, k5⟩ := post_val (d := o.dst) (v := undef) (K := fun s' => vcD P ops K fuel l (listed.setIfInBounds i true) s') hlk.ok h1
      rw [hlk.act] at k2
      rw [hlk.w] at k3
      refine first ⟨i, none, []⟩ undef s2 rfl (.inr ⟨hw, rfl⟩) trivial k1 (hfr1.trans (k4.mono (hdst ho))) k2 k3 ?_
      exact wpP_triv (q := ⟨i, none, []⟩) (fun _ => trivial) _ _ _ _ _ (vcD_sound hP hsel W s0 hW fuel _ _ s2 k1 (hfr1.trans (k4.mono (hdst ho))) (fun q hq => by rw [k3]; exact hl q hq) k5)
    ·cases h
   ·split at h
    ·rename_i hr
     exact ⟨fun _ => ⟨s, hok, rfl, rfl, hfr, h⟩, fun j hj => by rw [hr] at hj; cases hj⟩
    ·rename_i hr
     refine ⟨fun h0 => absurd h0 hr, fun j hj => ?_⟩
     have hj' := AndA_all h j hj
     split at hj'
     ·rename_i o ho
      have step : ∀ a w, Post o.dst s (fun s' => (∀ q ∈ stays ops j l, q.holds s'.w) ∧ vcD P ops K fuel (stays ops j l) (listed.setIfInBounds j true) s') a w →
        (∀ q ∈ stays ops j l, q.holds w) ∧ wpP P ops (Qr W s0 K) fuel (stays ops j l) (listed.setIfInBounds j true) a w := by
       rintro a w ⟨s2, k1, rfl, rfl, k4, k5, k6⟩
       exact ⟨k5, vcD_sound hP hsel W s0 hW fuel _ _ s2 k1 (hfr.trans (k4.mono (hdst ho))) k5 k6⟩
      unfold wpOpY
      simp only [ho]
      rcases guard_cases hok hj' with ⟨hw, s1, hlk, h1⟩ | ⟨hw, s1, hlk, h1⟩
      ·rw [if_pos hw]
       have hl1 : ∀ q ∈ stays ops j l, q.holds s1.w := fun q hq => by rw [hlk.w]; exact hl q (stays_mem hq)
       have h2 := vcOp_sound (Q := Qr W s0 K) (Qr_ok W s0 K) hP hlk.ok h1
       have h3 : o.wpY P s1.act s1.w (fun a w => (∀ q ∈ stays ops j l, q.holds w) ∧ wpP P ops (Qr W s0 K) fuel (stays ops j l) (listed.setIfInBounds j true) a w) (Qr W s0 K) := by
        cases hq : quiet P s1 o with
        | true =>
          obtain ⟨v, w', g1, g2⟩ := quiet_run hlk.ok hq h1
          refine Oper.wpY_mono (fun a w hh => ?_) (wp_and (G := fun w => Grow s1.w w) g1 g2 h2)
          obtain ⟨hp, hg⟩ := hh
          refine step a w (Post.like hlk ?_)
          obtain ⟨s2, k1, k2, k3, k4, k5⟩ := hp
          rw [AndL_iff] at k5
          exact ⟨s2, k1, k2, k3, k4, fun q hq => by rw [k3]; exact hg.LoadL (hl1 q hq), k5.2⟩
        | false =>
          refine Oper.wpY_mono (fun a w hp => step a w (Post.like hlk ?_)) h2
          obtain ⟨s2, k1, k2, k3, k4, k5⟩ := hp
          rw [AndL_iff] at k5
          refine ⟨s2, k1, k2, k3, k4, fun q hq' => ?_, k5.2⟩
          refine k5.1 _ ?_
          unfold reloads
          rw [hq]
          exact ali06.2 ⟨q, hq', rfl⟩
       rw [hlk.act, hlk.w] at h3
       exact h3
      ·rw [if_neg (by simp [hw])]
       obtain ⟨s2, k1, k2, k3, k4, k5⟩ := post_val (d := o.dst) (v := undef) (K := fun s' => vcD P ops K fuel (stays ops j l) (listed.setIfInBounds j true) s') hlk.ok h1
       rw [hlk.act] at k2
       rw [hlk.w] at k3
       rw [← k2, ← k3]
       exact step _ _ (Post.like hlk ⟨s2, k1, rfl, rfl, k4, fun q hq => by rw [k3]; exact hl q (stays_mem hq), k5⟩)
     ·cases hj'
end
def writes : Code → List Nat
 | .region _ ops _ => dstsOf ops.toList
 | .seq a b => writes a ++ writes b
 | .cond _ a b => writes a ++ writes b
 | .block _ a => writes a
 | .loop a => writes a
 | .scope a => writes a
 | .rangeFunc _ ps a b => ps.toList ++ writes a ++ writes b
 | _ => []
def firstId : Code → Option Nat
 | .region id _ _ => some id
 | .seq a b => match firstId a with | some i => some i | none => firstId b
 | .cond _ a b => match firstId a with | some i => some i | none => firstId b
 | .block _ a => firstId a
 | .loop a => firstId a
 | .scope a => firstId a
 | _ => none
structure Carry where
 slots : List (Nat × S)
 blocks : List (Nat × List S)
 kills : List Nat
structure Ann where
 loops : List (Nat × Carry)
 cuts : List (Nat × Carry)
 rngs : List (Nat × Carry × List T1) := []
def noRng : Code → Bool
 | .seq a b => noRng a && noRng b
 | .cond _ a b => noRng a && noRng b
 | .block _ a => noRng a
 | .loop a => noRng a
 | .scope _ => false
 | .rangeFunc .. => false
 | _ => true
def T1.all : T1 → (Value → Prop) → Prop
 | .sc s, F => s.all F
 | .agg l, F => allL l fun vs => F (.agg vs.toArray)
def all1 : List T1 → (List Value → Prop) → Prop
 | [], F => F []
 | t :: r, F => t.all fun v => all1 r fun vs => F (v :: vs)
structure Step (F F' : Nat → Prop) (w w' : World) : Prop where
 sub : ∀ i, F' i → F i ∨ w.heap.size ≤ i
 size : w.heap.size ≤ w'.heap.size
 same : ∀ i, i < w.heap.size → ¬ F i → w'.heap[i]? = w.heap[i]?
theorem Step.late {F F' : Nat → Prop} {w w' : World} (h : Step F F' w w') {k : Nat} : Step (fun i => F i ∨ k ≤ i) F' w w' := ⟨fun i hi => (h.sub i hi).elim (fun q => .inl (.inl q)) .inr, h.size, fun i hi hn => h.same i hi fun q => hn (.inl q)⟩
def Stab {α : Type} (B : Nat) (I : α → (Nat → Prop) → World → Prop) : Prop :=
 ∀ n F w w', I n F w → Below B w w' → (∀ i, F i → w'.heap[i]? = w.heap[i]?) → I n F w'
def Iter (P : Program) (gv : Value) (W0 : World) (Rd : Nat → Prop) (xs : List (List Value)) : Prop :=
 (∃ f first cap, gv = .func (.func f) first cap ∧ hasBody P f = true) ∧ ∀ (y : Value) (B : Nat) (J : Nat → (Nat → Prop) → World → Prop) (Jx : Unit → (Nat → Prop) → World → Prop) (F0 : Nat → Prop) (W : World),
  B ≤ W.heap.size → Stab B J → Stab B Jx → (∀ n F w, J n F w → ∀ i, F i → i < w.heap.size) →
  (∀ i, Rd i → ¬ F0 i ∧ i < W.heap.size ∧ W.heap[i]? = W0.heap[i]?) →
  (∀ n x F w, xs[n]? = some x → J n F w → callV P y x w fun e w' =>
   (e = .returned (.bool true) ∧ ∃ F', J (n + 1) F' w' ∧ Step F F' w w') ∨ (e = .returned (.bool false) ∧ ∃ F', Jx () F' w' ∧ Step F F' w w')) →
  J 0 F0 W → callV P gv [y] W fun e w' => (∃ v, e = .returned v) ∧ ((∃ F', J xs.length F' w') ∨ ∃ F', Jx () F' w')
structure Begun (B : Nat) (w w1 : World) : Prop where
 ext : Below w.heap.size w w1
 at_ : B = w.heap.size
 size : w1.heap.size = B + 2
def joinJ (l : List (Option Nat)) : List (Option Nat) → List (Option Nat)
 | [] => l
 | x :: r => joinJ (if l.contains x then l else l ++ [x]) r
def jumpsOf : Code → List (Option Nat)
 | .exit id => [some id]
 | .ret => [none]
 | .seq a b => joinJ (jumpsOf a) (jumpsOf b)
 | .cond _ a b => joinJ (jumpsOf a) (jumpsOf b)
 | .block id a => (jumpsOf a).filter (· != some id)
 | .loop a => jumpsOf a
 | _ => []
def exitJ : Option Nat → Exit | none => .ret | some id => .exit id
def codeJ : Option Nat → Code | none => .ret | some id => .exit id
def AndJ : List (Option Nat) → (Option Nat → Prop) → Prop
 | [], _ => True
 | [j], F => F j
 | j :: k :: r, F => F j ∧ AndJ (k :: r) F
theorem AndJ_all : ∀ {l : List (Option Nat)} {F : Option Nat → Prop}, AndJ l F → ∀ j ∈ l, F j
 | [], _, _, j, h => by cases h
 | [a], _, h, j, hj => by
   have : j = a := by simpa using hj
   subst this; exact h
 | a :: b :: r, F, h, j, hj => by
   cases hj with
   | head => exact h.1
   | tail _ hm => exact AndJ_all h.2 j hm
def Carry.shapes (c : Carry) : List S := c.slots.map (·.2) ++ c.blocks.flatMap (·.2)
def Carry.vals (c : Carry) (s : St) : List Value := c.slots.map (fun x => (s.sl.getD x.1 (.val undef)).conc s.kn) ++ c.blocks.flatMap fun x => (s.kn.getD x.1 default).cells
def zipSlots : List SV → List (Nat × S) → List Value → List SV
 | sl, (i, _) :: r, v :: vs => zipSlots (sl.set i (.val v)) r vs
 | sl, _, _ => sl
def zipBlocks : List KB → List (Nat × List S) → List Value → List KB
 | kn, (k, ss) :: r, vs => zipBlocks (kn.modify k fun b => { b with cells := vs.take ss.length }) r (vs.drop ss.length)
 | kn, [], _ => kn
def havocFrom (us : Nat → Value) (W : List Nat) : Nat → List SV → List SV
 | _, [] => []
 | i, v :: r => (if W.contains i then .val (us i) else v) :: havocFrom us W (i + 1) r
def Carry.head (c : Carry) (W : List Nat) (us : Nat → Value) (vs : List Value) (w : World) (s : St) : St :=
 { sl := zipSlots (havocFrom us W 0 s.sl) c.slots vs, w := w, kn := zipBlocks s.kn c.blocks (vs.drop c.slots.length), df := s.df }
def Carry.keepB (c : Carry) (s s' : St) : Bool :=
 s'.df.length == s.df.length && (List.range s.kn.length).all fun k => (s.kn.getD k default).live == (s'.kn.getD k default).live
def Carry.cellsC (c : Carry) (s s' : St) : List Prop :=
 ((List.range s.kn.length).filter fun k => (s.kn.getD k default).live && !(c.blocks.any fun x => x.1 == k)).map fun k => (s'.kn.getD k default).cells = (s.kn.getD k default).cells
def Carry.okB (c : Carry) (s : St) : Bool :=
 (c.blocks.all fun x => (s.kn.getD x.1 default).cells.length == x.2.length && x.1 < s.kn.length)
def Carry.enter (c : Carry) (s s' : St) (I : List Value → World → Prop) : Prop :=
 match c.keepB s s' && c.okB s' with
 | true => AndL (c.cellsC s s') (I (c.vals s') s'.w)
 | false => False
def vcCode [PQ] (P : Program) (an : Ann) : Code → St → (Exit → St → Prop) → Prop
 | .skip, s, Q => Q .normal s
 | .region _ ops draw, s, Q => match draw with
   | false => vcList P ops ops.toList s (Q .normal)
   | true => match Region.noSelect ops with
     | true => vcD P ops (Q .normal) ops.size [] (Array.replicate ops.size false) { s with w := s.w.drew }
     | false => False
 | .seq x y, s, Q => match (firstId y).bind fun i => an.cuts.lookup i with
   | none => vcCode P an x s fun e s' => match e with | .normal => vcCode P an y s' Q | e => Q e s'
   | some c => let s := s.kill (c.kills.map fun k => .loc k 0)
     ∃ J : FnL c.shapes (World → Prop), vcCode P an x s (fun e s' => match e with | .normal => c.enter s s' (appL c.shapes J) | e => Q e s') ∧
      ∀ us : Nat → Value, allL c.shapes fun vs => ∀ w, appL c.shapes J vs w → vcCode P an y (c.head (writes x) us vs w s) Q
 | .cond c x y, s, Q => match s.sv c with
   | .val (.bool b) => Br b (vcCode P an x s Q) (vcCode P an y s Q)
   | _ => False
 | .block id x, s, Q => vcCode P an x s fun e s' => match e with | .exit id' => if id' = id then Q .normal s' else Q (.exit id') s' | e => Q e s'
 | .loop x, s, Q => match (firstId x).bind fun i => an.loops.lookup i with
   | none => False
   | some c => let s := s.kill (c.kills.map fun k => .loc k 0)
     ∃ I : Nat → FnL c.shapes (World → Prop), (∃ n, c.enter s s (appL c.shapes (I n))) ∧
      ∀ n : Nat, ∀ us : Nat → Value, allL c.shapes fun vs => ∀ w, appL c.shapes (I n) vs w →
       vcCode P an x (c.head (writes x) us vs w s) fun e s' => match e with | .normal => ∃ m, m < n ∧ c.enter s s' (appL c.shapes (I m)) | e => Q e s'
 | .exit id, s, Q => Q (.exit id) s
 | .ret, s, Q => Q .ret s
 | .label _, s, Q => Q .normal s
 | .scope x, s, Q => vcCode P an x s fun e s' => match e with | .goto _ => False | e => Q e s'
 | .rangeFunc g ps assign body, s, Q => match PQ.q with
   | some _ => False
   | none => match (firstId body).bind fun i => an.rngs.lookup i with
   | none => False
   | some (c, ts) => match noRng assign && noRng body && c.slots.isEmpty && ts.length == ps.size with
     | false => False
     | true => let s := s.kill (c.kills.map fun k => .loc k 0)
       let s0 : St := { s with df := [] }
       ∃ (xs : List (List Value)) (Rd F0 : Nat → Prop) (I : Nat → (Nat → Prop) → FnL c.shapes (World → Prop)) (X : Option Nat → (Nat → Prop) → FnL c.shapes (World → Prop)),
        (∀ x ∈ xs, ex1 ts fun pv => x = pv) ∧
        (∀ n F, allL c.shapes fun vs => ∀ w w', appL c.shapes (I n F) vs w → Below s.w.heap.size w w' → (∀ i, F i → w'.heap[i]? = w.heap[i]?) → appL c.shapes (I n F) vs w') ∧
        (∀ n F, allL c.shapes fun vs => ∀ w w', appL c.shapes (X n F) vs w → Below s.w.heap.size w w' → (∀ i, F i → w'.heap[i]? = w.heap[i]?) → appL c.shapes (X n F) vs w') ∧
        (∀ n F, allL c.shapes fun vs => ∀ w, appL c.shapes (I n F) vs w → ∀ i, F i → i < w.heap.size ∧ i ≠ s.w.heap.size ∧ i ≠ s.w.heap.size + 1) ∧
        (∀ n F, allL c.shapes fun vs => ∀ w, appL c.shapes (X n F) vs w → ∀ i, F i → i < w.heap.size ∧ i ≠ s.w.heap.size ∧ i ≠ s.w.heap.size + 1) ∧
        (∀ i, Rd i → i < s.w.heap.size ∧ ¬ F0 i ∧ AndL ((lives s.kn).map fun k => i ≠ k) True) ∧
        (∀ w1, Begun s.w.heap.size s.w w1 → Iter P (s.ev g) w1 Rd xs ∧ c.enter s0 { s0 with w := w1 } (appL c.shapes (I 0 F0))) ∧
        (∀ n F (us : Nat → Value), allL c.shapes fun vs => all1 ts fun pv => ∀ w, xs[n]? = some pv → appL c.shapes (I n F) vs w →
         vcCode P an assign { c.head [] us vs w s0 with sl := (ps.toList.zip pv).foldl (fun sl p => sl.set p.1 (.val p.2)) (c.head [] us vs w s0).sl } fun e s1 => match e with
          | .normal => Below w.heap.size w s1.w ∧ ∀ w2, Rec (s.w.heap.size + 1) s1.w w2 → appL c.shapes (I n F) vs w2 →
            vcCode P an body { s1 with w := w2 } fun e s2 => match e with
             | .normal => ∃ F', c.enter s0 s2 (appL c.shapes (I (n + 1) F')) ∧ Step (fun i => (F i ∨ i ∈ lives s.kn) ∨ w.heap.size ≤ i) (fun i => F' i ∨ i ∈ lives s.kn) w2 s2.w
             | .ret => (jumpsOf body).contains none = true ∧ ∃ F', c.enter s0 s2 (appL c.shapes (X none F')) ∧ Step (fun i => (F i ∨ i ∈ lives s.kn) ∨ w.heap.size ≤ i) (fun i => F' i ∨ i ∈ lives s.kn) w2 s2.w
             | .exit id => (jumpsOf body).contains (some id) = true ∧ ∃ F', c.enter s0 s2 (appL c.shapes (X (some id) F')) ∧ Step (fun i => (F i ∨ i ∈ lives s.kn) ∨ w.heap.size ≤ i) (fun i => F' i ∨ i ∈ lives s.kn) w2 s2.w
             | _ => False
          | _ => False) ∧
        (∀ F (us : Nat → Value), allL c.shapes fun vs => ∀ w, appL c.shapes (I xs.length F) vs w → w.heap[s.w.heap.size]? = some (.deferred (some [])) → Q .normal { c.head [] us vs w s with df := s.w.heap.size :: s.df }) ∧
        AndJ (jumpsOf body) fun j => ∀ F (us : Nat → Value), allL c.shapes fun vs => ∀ w, appL c.shapes (X j F) vs w → w.heap[s.w.heap.size]? = some (.deferred (some [])) → Q (exitJ j) { c.head [] us vs w s with df := s.w.heap.size :: s.df }
 | _, _, _ => False
section
variable {P : Program} {s : St}
theorem appL_inst : ∀ {l : List S} {f : FnL l (World → Prop)} {vs : List Value} {w : World} {F : List Value → Prop}, appL l f vs w → allL l F → F vs ∧ vs.length = l.length
 | [], _, [], _, _, _, h => ⟨h, rfl⟩
 | [], _, _ :: _, _, _, ha, _ => ha.elim
 | _ :: _, _, [], _, _, ha, _ => ha.elim
 | c :: r, f, v :: vs, w, F, ha, h => by
   unfold appL at ha
   split at ha
   ·rename_i x hx
    have := S.get_mk hx
    subst this
    have h2 := appL_inst ha (h x)
    exact ⟨h2.1, by simp [h2.2]⟩
   ·exact ha.elim
theorem havoc_get (us : Nat → Value) (W : List Nat) : ∀ (l : List SV) (k i : Nat), (havocFrom us W k l)[i]? = (l[i]?).map fun v => if W.contains (k + i) then .val (us (k + i)) else v
 | [], k, i => by simp [havocFrom]
 | v :: r, k, i => by
   cases i with
   | zero => simp [havocFrom]
   | succ i =>
     simp only [havocFrom, ali42]
     rw [havoc_get us W r (k + 1) i]
     simp only [show k + 1 + i = k + (i + 1) by omega]
theorem zipSlots_get {g : Nat → Value} : ∀ (cs : List (Nat × S)) (sl : List SV) (rest : List Value) (i : Nat),
  (zipSlots sl cs (cs.map (fun x => g x.1) ++ rest))[i]? = if cs.any (fun x => x.1 == i) then (sl[i]?).map fun _ => SV.val (g i) else sl[i]?
 | [], sl, rest, i => by cases rest <;> simp [zipSlots]
 | (j, c) :: r, sl, rest, i => by
   simp only [ali17, List.cons_append, zipSlots]
   rw [zipSlots_get r]
   by_cases e : j = i
   ·subst e
    simp only [List.any_cons, beq_self_eq_true, Bool.true_or, if_true, ali33]
    split
    ·split <;> simp_all
    ·split <;> simp_all
   ·simp only [List.any_cons, show (j == i) = false by simpa using e, Bool.false_or, ali33, if_neg e]
theorem zipBlocks_get {g : Nat → List Value} : ∀ (bs : List (Nat × List S)) (kn : List KB) (i : Nat), (∀ x ∈ bs, (g x.1).length = x.2.length) →
  (zipBlocks kn bs (bs.flatMap fun x => g x.1))[i]? = (kn[i]?).map fun b => if bs.any (fun x => x.1 == i) then { b with cells := g i } else b
 | [], kn, i, _ => by simp [zipBlocks]
 | (k, ss) :: r, kn, i, h => by
   have hk : (g k).length = ss.length := h (k, ss) smm
   simp only [List.flatMap_cons, zipBlocks]
   rw [← hk, List.take_left, List.drop_left, zipBlocks_get r _ _ (fun x hx => h x (by simp [hx])), alj25]
   by_cases e : k = i
   ·subst e
    simp only [List.any_cons, beq_self_eq_true, Bool.true_or, if_true]
    cases kn[k]? with
    | none => rfl
    | some b => simp
   ·simp only [List.any_cons, show (k == i) = false by simpa using e, Bool.false_or, if_neg e]
    cases kn[i]? with
    | none => rfl
    | some b => simp
theorem head_ok {c : Carry} {s s' : St} {W : List Nat} {I : List Value → World → Prop} (hok : s.Ok) (hok' : s'.Ok) (hfr : Fr W s s') (h : c.enter s s' I) :
  ∃ us, I (c.vals s') s'.w ∧ (c.head W us (c.vals s') s'.w s).Ok ∧ (c.head W us (c.vals s') s'.w s).act = s'.act ∧ Fr W s (c.head W us (c.vals s') s'.w s) := by
 unfold Carry.enter at h
 split at h
 case h_2 => exact h.elim
 rename_i hb
 rw [AndL_iff] at h
 obtain ⟨hcells, hI⟩ := h
 rw [ali39] at hb
 obtain ⟨hlive, hblk⟩ := hb
 have hdf : s'.df = s.df := hfr.df.2 (by
  unfold Carry.keepB at hlive
  rw [ali39] at hlive
  simpa using hlive.1)
 let g : Nat → Value := fun i => (s'.sl.getD i (.val undef)).conc s'.kn
 let gb : Nat → List Value := fun k => (s'.kn.getD k default).cells
 have hlen : ∀ x ∈ c.blocks, (gb x.1).length = x.2.length := fun x hx => by
  unfold Carry.okB at hblk
  have := alj10.1 hblk x hx
  simp only [ali39, beq_iff_eq] at this
  exact this.1
 have hvals : c.vals s' = c.slots.map (fun x => g x.1) ++ c.blocks.flatMap fun x => gb x.1 := rfl
 have hdrop : (c.vals s').drop c.slots.length = c.blocks.flatMap fun x => gb x.1 := by
  rw [hvals, ← ali01 (as := c.slots) (f := fun x => g x.1), List.drop_left]
 have hkn : ∀ i, (c.head W g (c.vals s') s'.w s).kn[i]? = (s.kn[i]?).map fun b => if c.blocks.any (fun x => x.1 == i) then { b with cells := gb i } else b := by
  intro i
  show (zipBlocks s.kn c.blocks _)[i]? = _
  rw [hdrop, zipBlocks_get _ _ _ hlen]
 have hidx : Idx s.kn (c.head W g (c.vals s') s'.w s).kn := fun k kb hk => by
  refine ⟨_, by rw [hkn, hk]; rfl, ?_, ?_⟩ <;> (dsimp only; split <;> rfl)
 have hsl : ∀ i, (c.head W g (c.vals s') s'.w s).sl[i]? = (s.sl[i]?).map fun v => if c.slots.any (fun x => x.1 == i) then .val (g i) else if W.contains i then .val (g i) else v := by
  intro i
  show (zipSlots _ c.slots _)[i]? = _
  rw [hvals, zipSlots_get, havoc_get]
  simp only [ali37]
  split <;> cases s.sl[i]? <;> simp
 have hconc : ∀ (i : Nat) (v : SV), s.sl[i]? = some v → ((if c.slots.any (fun x => x.1 == i) then SV.val (g i) else if W.contains i then .val (g i) else v).conc (c.head W g (c.vals s') s'.w s).kn) = g i := by
  intro i v hv
  split
  ·rfl
  ·split
   ·rfl
   ·rename_i hW
    rw [hidx.conc (hok.locs i v hv)]
    have := hfr.slot i (by simpa using hW)
    simp only [ali05, hv, Option.getD_some] at this
    exact this.symm
 have hblkOk : ∀ (k : Nat) (kb : KB), (c.head W g (c.vals s') s'.w s).kn[k]? = some kb → kb.live = true → ∃ kb', s'.kn[k]? = some kb' ∧ kb'.live = true ∧ kb'.idx = kb.idx ∧ kb'.ty = kb.ty ∧ kb'.cells = kb.cells := by
  intro k kb h1 h2
  rw [hkn] at h1
  cases hs : s.kn[k]? with
  | none => simp [hs] at h1
  | some b =>
    have hlt : k < s.kn.length := (ali03.1 hs).1
    obtain ⟨kb', e1, e2, e3⟩ := hfr.kn k b hs
    have hl : b.live = kb'.live := by
     unfold Carry.keepB at hlive
     rw [ali39] at hlive
     have := alj10.1 hlive.2 k (alj45.2 hlt)
     simpa [ali05, hs, e1] using this
    rw [hs] at h1
    simp only [alj69, Option.some.injEq] at h1
    split at h1
    ·subst h1
     exact ⟨kb', e1, hl ▸ h2, e2, e3, by simp [gb, ali05, e1]⟩
    ·rename_i hnot
     subst h1
     refine ⟨kb', e1, hl ▸ h2, e2, e3, ?_⟩
     have := hcells ((s'.kn.getD k default).cells = (s.kn.getD k default).cells) (ali06.2 ⟨k, alj40.2 ⟨alj45.2 hlt, ?_⟩, rfl⟩)
     ·simpa [ali05, hs, e1] using this
     ·simp only [ali05, hs, Option.getD_some, h2, alj05, Bool.not_eq_true']
      simpa only [Bool.not_eq_true] using hnot
 refine ⟨g, hI, ⟨?_, ?_, ?_⟩, ?_, ⟨?_, ?_, hidx, ali34 _, fun _ => rfl⟩⟩
 ·intro k kb h1 h2
  obtain ⟨kb', e1, e2, e3, e4, e5⟩ := hblkOk k kb h1 h2
  have := hok'.blk k kb' e1 e2
  rw [e3, e4, e5] at this
  exact this
 ·intro i j x y h1 h2 h3 h4 h5
  obtain ⟨x', a1, a2, a3, _⟩ := hblkOk i x h1 h3
  obtain ⟨y', b1, b2, b3, _⟩ := hblkOk j y h2 h4
  exact hok'.ne i j x' y' a1 b1 a2 b2 (by rw [a3, b3]; exact h5)
 ·intro i v hv
  rw [hsl] at hv
  cases hs : s.sl[i]? with
  | none => simp [hs] at hv
  | some u =>
    rw [hs] at hv
    simp only [alj69, Option.some.injEq] at hv
    subst hv
    split
    ·trivial
    ·split
     ·trivial
     ·exact (hok.locs i u hs).mono hidx.length
 ·simp only [St.act]
  rw [show (c.head W g (c.vals s') s'.w s).df = s'.df from hdf.symm]
  congr 1
  congr 1
  apply ali20
  intro i
  rw [ali02, ali02, hsl]
  cases hs : s.sl[i]? with
  | none =>
    have : s'.sl[i]? = none := by
     rw [List.getElem?_eq_none_iff] at hs ⊢
     rw [hfr.len]; exact hs
    simp [this]
  | some v =>
    have hlt : i < s'.sl.length := by rw [hfr.len]; exact (ali03.1 hs).1
    simp only [alj69]
    rw [hconc i v hs]
    simp [g, ali05, ali04 hlt]
 ·have h1 : ∀ i, (c.head W g (c.vals s') s'.w s).sl[i]? = none ↔ s.sl[i]? = none := fun i => by rw [hsl, Option.map_eq_none_iff]
  have e1 := h1 s.sl.length
  have e2 := h1 (c.head W g (c.vals s') s'.w s).sl.length
  simp only [List.getElem?_eq_none_iff] at e1 e2
  omega
 ·intro i hi
  simp only [ali05, hsl]
  cases hs : s.sl[i]? with
  | none => rfl
  | some v =>
    simp only [alj69, Option.getD_some]
    rw [hconc i v hs]
    have := hfr.slot i hi
    simp only [ali05, hs, Option.getD_some] at this
    simp only [g, ali05]
    exact this
def PostC [PQ] (W : List Nat) (s : St) (Q : Exit → St → Prop) : Exit → Act → World → Prop :=
 fun e a w => (∃ s', s'.Ok ∧ s'.act = a ∧ s'.w = w ∧ Fr W s s' ∧ Q e s') ∨ ∃ q c, PQ.q = some q ∧ e = .panic c ∧ a.defers = [] ∧ q c w
theorem PostC.get [PQ] {W : List Nat} {s : St} {Q : Exit → St → Prop} {e : Exit} {a : Act} {w : World} (h : PostC W s Q e a w) (he : ∀ c, e ≠ .panic c) : ∃ s', s'.Ok ∧ s'.act = a ∧ s'.w = w ∧ Fr W s s' ∧ Q e s' := by
 rcases h with h | ⟨q, c, hq, h, -⟩
 ·exact h
 ·exact absurd h (he c)
theorem PostC_ok [PQ] (W : List Nat) (s : St) (Q : Exit → St → Prop) : PQok (PostC W s Q) := fun q hq c _ _ hd hc => .inr ⟨q, c, hq, rfl, hd, hc⟩
theorem PostC.of [PQ] {W W' : List Nat} {s h : St} {Q : Exit → St → Prop} {e : Exit} {a : Act} {w : World} (hp : PostC W h Q e a w) (hfr : Fr W' s h) (hs : ∀ i ∈ W, i ∈ W') : PostC W' s Q e a w := by
 rcases hp with ⟨s', h1, h2, h3, h4, h5⟩ | hp
 ·exact .inl ⟨s', h1, h2, h3, hfr.trans (h4.mono hs), h5⟩
 ·exact .inr hp
theorem wpIn_loop_ghost {F : Fence} {n : Nat} {P : Program} {Q : Exit → Act → World → Prop} {a : Act} {w : World} {c : Code} (I : Nat → Act → World → Prop) (n₀ : Nat) (h₀ : I n₀ a w)
  (round : ∀ m a w, I m a w → c.wpIn F n P (Exit.then (fun a' w' => ∃ n', n' < m ∧ I n' a' w') Q) a w) : (Code.loop c).wpIn F n P Q a w := by
 refine wpIn_loop (fun a w => ∃ n, I n a w) (fun a w => leastOf (fun n => I n a w)) ⟨n₀, h₀⟩ ?_
 intro a w hI
 refine wpIn_mono (round _ a w (leastOf_spec hI).1) ?_
 intro e a' w' hq
 cases e with
 | normal =>
   obtain ⟨n', hlt, hI'⟩ := hq
   exact show (∃ n, I n a' w') ∧ leastOf (fun n => I n a' w') < leastOf (fun n => I n a w) from ⟨⟨n', hI'⟩, alj60 ((leastOf_spec ⟨n', hI'⟩).2 n' hI') hlt⟩
 | exit id => exact hq
 | goto l => exact hq
 | ret => exact hq
 | panic ch => exact hq
 | outgrown => exact hq
theorem havoc_nil (us : Nat → Value) : ∀ (l : List SV) (i : Nat), havocFrom us [] i l = l
 | [], _ => rfl
 | v :: r, i => by
   show (if ([] : List Nat).contains i then SV.val (us i) else v) :: havocFrom us [] (i + 1) r = _
   rw [havoc_nil us r (i + 1)]; rfl
theorem lives_zip : ∀ (bs : List (Nat × List S)) (kn : List KB) (vs : List Value), lives (zipBlocks kn bs vs) = lives kn
 | [], _, _ => rfl
 | (k, ss) :: r, kn, vs => by
   show lives (zipBlocks (kn.modify k fun b => { b with cells := vs.take ss.length }) r (vs.drop ss.length)) = _
   rw [lives_zip r]
   unfold lives
   induction kn generalizing k with
   | nil => simp
   | cons b kn ih =>
     cases k with
     | zero => cases hb : b.live <;> simp [hb]
     | succ k =>
       have := ih k
       cases hb : b.live <;> simp [hb] <;> simpa using this
theorem lives_mem {kn : List KB} {k : Nat} {kb : KB} (h : kn[k]? = some kb) (hl : kb.live = true) : kb.idx ∈ lives kn :=
 ali06.2 ⟨kb, alj40.2 ⟨ali00 h, hl⟩, rfl⟩
theorem lives_lt {s : St} (hok : s.Ok) {i : Nat} (h : i ∈ lives s.kn) : ∃ c t, s.w.heap[i]? = some (.cells c t (0, 0)) := by
 obtain ⟨kb, h1, rfl⟩ := ali06.1 h
 obtain ⟨h1, h2⟩ := alj40.1 h1
 obtain ⟨k, hk⟩ := alj26 h1
 exact ⟨_, _, hok.blk k kb hk h2⟩
theorem exL_len : ∀ {l : List S} {F : List Value → Prop}, exL l F → ∃ vs, F vs ∧ ∀ G : List Value → Prop, allL l G → G vs
 | [], _, h => ⟨[], h, fun _ hg => hg⟩
 | s :: r, F, ⟨x, hx⟩ => by
   obtain ⟨vs, h1, h2⟩ := exL_len hx
   exact ⟨_, h1, fun G hg => h2 _ (hg x)⟩
theorem T1.ex_all {t : T1} {F : Value → Prop} (h : t.ex F) : ∃ v, F v ∧ ∀ G : Value → Prop, t.all G → G v := by
 cases t with
 | sc s => obtain ⟨x, hx⟩ := h; exact ⟨_, hx, fun G hg => hg x⟩
 | agg l => obtain ⟨vs, h1, h2⟩ := exL_len h; exact ⟨_, h1, fun G hg => h2 _ hg⟩
theorem ex1_all : ∀ {l : List T1} {F : List Value → Prop}, ex1 l F → ∃ vs, F vs ∧ vs.length = l.length ∧ ∀ G : List Value → Prop, all1 l G → G vs
 | [], _, h => ⟨[], h, rfl, fun _ hg => hg⟩
 | t :: r, F, h => by
   obtain ⟨v, h1, h2⟩ := T1.ex_all h
   obtain ⟨vs, h3, h4, h5⟩ := ex1_all h1
   exact ⟨v :: vs, h3, by simp [h4], fun G hg => h5 _ (h2 _ hg)⟩
theorem head0_ok {c : Carry} {s s' : St} {W : List Nat} {I : List Value → World → Prop} (hcs : c.slots = []) (hok : s.Ok) (hok' : s'.Ok) (hfr : Fr W s s') (h : c.enter s s' I) :
  ∃ us, I (c.vals s') s'.w ∧ (c.head [] us (c.vals s') s'.w s).Ok ∧ Fr [] s (c.head [] us (c.vals s') s'.w s) ∧ (c.head [] us (c.vals s') s'.w s).sl = s.sl := by
 obtain ⟨us, h1, h2, h3, h4⟩ := head_ok hok hok' hfr h
 have hsl : (c.head [] us (c.vals s') s'.w s).sl = s.sl := by
  show zipSlots (havocFrom us [] 0 s.sl) c.slots _ = _
  rw [hcs, havoc_nil]; rfl
 have hidx : Idx s.kn (c.head [] us (c.vals s') s'.w s).kn := h4.kn
 refine ⟨us, h1, ⟨h2.blk, h2.ne, fun i v hv => ?_⟩, ⟨by rw [hsl], fun i _ => ?_, hidx, ali34 _, fun _ => rfl⟩, hsl⟩
 ·rw [hsl] at hv
  exact (hok.locs i v hv).mono hidx.length
 ·rw [hsl]
  simp only [ali05]
  cases hg : s.sl[i]? with
  | none => rfl
  | some u => exact hidx.conc (hok.locs i u hg)
theorem fold_act : ∀ (l : List (Tmp × Value)) (sl : List SV) (kn : List KB), (l.foldl (fun sl p => sl.set p.1 (.val p.2)) sl).map (SV.conc kn) = l.foldl (fun t p => t.set p.1 p.2) (sl.map (SV.conc kn))
 | [], _, _ => rfl
 | p :: r, sl, kn => by
   simp only [alj23]
   rw [fold_act r, alj36]; rfl
theorem fold_arr : ∀ (l : List (Tmp × Value)) (t : List Value), (l.foldl (fun t p => t.set p.1 p.2) t).toArray = l.foldl (fun (t : Array Value) p => t.setIfInBounds p.1 p.2) t.toArray
 | [], _ => rfl
 | p :: r, t => by
   simp only [alj23]
   rw [fold_arr r]; simp
theorem fold_len : ∀ (l : List (Tmp × Value)) (sl : List SV), (l.foldl (fun sl p => sl.set p.1 (.val p.2)) sl).length = sl.length
 | [], _ => rfl
 | p :: r, sl => by simp only [alj23]; rw [fold_len r]; simp
theorem fold_inB {n : Nat} : ∀ (l : List (Tmp × Value)) (sl : List SV), (∀ (i : Nat) (v : SV), sl[i]? = some v → v.inB n) → ∀ (i : Nat) (v : SV), (l.foldl (fun sl p => sl.set p.1 (.val p.2)) sl)[i]? = some v → v.inB n
 | [], _, h => h
 | p :: r, sl, h => by
   simp only [alj23]
   refine fold_inB r _ fun i v hv => ?_
   rw [ali33] at hv
   split at hv
   ·split at hv
    ·cases hv; trivial
    ·cases hv
   ·exact h i v hv
theorem fold_slot : ∀ (l : List (Tmp × Value)) (sl : List SV) (i : Nat), i ∉ l.map (·.1) → (l.foldl (fun sl p => sl.set p.1 (.val p.2)) sl)[i]? = sl[i]?
 | [], _, _, _ => rfl
 | p :: r, sl, i, h => by
   simp only [alj23]
   rw [fold_slot r _ i (fun hm => h (by simp [hm])), ali33, if_neg (fun e => h (by simp [e]))]
theorem rngSound [PQ] (hP : NoNG P) {n : Nat} {an : Ann} {g : Operand} {ps : Array Tmp} {assign body : Code} {Q : Exit → St → Prop} (hok : s.Ok)
  (ha : ∀ (l : Nat) (s : St) (Q : Exit → St → Prop), noRng assign = true → s.Ok → vcCode P an assign s Q → assign.wpIn (Fence.wide.inRound l) 0 P (PostC (writes assign) s Q) s.act s.w)
  (hb : ∀ (l : Nat) (s : St) (Q : Exit → St → Prop), noRng body = true → s.Ok → vcCode P an body s Q → body.wpIn (Fence.wide.inRound l) 0 P (PostC (writes body) s Q) s.act s.w)
  (h : vcCode P an (.rangeFunc g ps assign body) s Q) : (Code.rangeFunc g ps assign body).wpIn Fence.wide n P (PostC (writes (.rangeFunc g ps assign body)) s Q) s.act s.w := by
 unfold vcCode at h
 split at h
 ·exact h.elim
 rename_i hpq
 split at h
 ·exact h.elim
 rename_i c ts hc
 split at h
 ·exact h.elim
 rename_i hbool
 simp only [ali39, List.isEmpty_iff, beq_iff_eq] at hbool
 obtain ⟨⟨⟨hn1, hn2⟩, hcs⟩, htl⟩ := hbool
 obtain ⟨q1, q2, q3, q4, q5⟩ := kill_Ok (c.kills.map fun k => .loc k 0) hok
 have qa := act_kill (l := c.kills.map fun k => .loc k 0) hok
 have qf : Fr (writes (.rangeFunc g ps assign body)) s (s.kill (c.kills.map fun k => .loc k 0)) := ⟨by rw [q2], fun i _ => by
  rw [q2]
  simp only [ali05]
  cases hg : s.sl[i]? with
  | none => rfl
  | some u => exact q4.conc (hok.locs i u hg), q4, by rw [kill_df]; exact ⟨ali34 _, fun _ => rfl⟩⟩
 suffices hh : (Code.rangeFunc g ps assign body).wpIn Fence.wide n P (PostC (writes (.rangeFunc g ps assign body)) (s.kill (c.kills.map fun k => .loc k 0)) Q) s.act s.w from wpIn_mono hh fun e a w hp => hp.of qf fun i hi => hi
 rw [← qa, ← q3]
 simp only at h
 generalize s.kill (c.kills.map fun k => .loc k 0) = s at *
 have hok := q1
 obtain ⟨xs, Rd, F0, I, X, hsh, hsI, hsX, hbI, hbX, hRd, hin, hround, hdone, hexit⟩ := h
 obtain ⟨B, hB⟩ : ∃ B, B = s.w.heap.size := ⟨_, rfl⟩
 rw [← hB] at hsI hsX hbI hbX hRd hin hround hdone hexit
 obtain ⟨s0, hs0⟩ : ∃ s0 : St, s0 = { s with df := [] } := ⟨_, rfl⟩
 simp only [← hs0] at hin hround
 have hok0 : s0.Ok := by rw [hs0]; exact ⟨hok.blk, hok.ne, hok.locs⟩
 have e0 : s0.sl = s.sl ∧ s0.w = s.w ∧ s0.kn = s.kn ∧ s0.df = [] := by rw [hs0]; exact ⟨rfl, rfl, rfl, rfl⟩
 have hlv : ∀ {i}, i ∈ lives s.kn → i < B := fun hi => by
  obtain ⟨_, _, h1⟩ := lives_lt hok hi
  rw [hB]; exact (ali22.1 h1).1
 refine wpIn_rangeFunc fun fn hfn => ?_
 obtain ⟨rec, hrec⟩ : ∃ rec : LoopState → Option Code → Loop, rec = fun st pe => { state := st, pending := pe, fn, tmps := s.act.tmps, params := ps, assign, body, defers := B } := ⟨_, rfl⟩
 obtain ⟨W1, hW1⟩ : ∃ W1, (s.w.alloc (.deferred (some []))).alloc (.loop (rec .ready none)) = W1 := ⟨_, rfl⟩
 have hL1 : W1.heap[B + 1]? = some (.loop (rec .ready none)) := by
  rw [← hW1, hB]; have := World.alloc_heap_new (s.w.alloc (.deferred (some []))) (.loop (rec .ready none)); rwa [World.size_alloc] at this
 have hD1 : W1.heap[B]? = some (.deferred (some [])) := by
  rw [← hW1, hB]; exact (Below.heap_alloc _ _ _ smm).trans (World.alloc_heap_new s.w _)
 have hz1 : W1.heap.size = B + 2 := by rw [← hW1, hB]; simp
 have hb1 : Below B s.w W1 := by
  rw [← hW1]; exact ((Below.refl _ s.w).alloc omm _).alloc (by simp; omega) _
 obtain ⟨⟨⟨f, first, cap, hg, hbd⟩, hit⟩, hen⟩ := hin W1 ⟨hB ▸ hb1, hB, hz1⟩
 obtain ⟨JJ, hJJ⟩ : ∃ JJ : LoopState → Option Code → ((Nat → Prop) → FnL c.shapes (World → Prop)) → (Nat → Prop) → World → Prop, JJ = fun st pe K FF w => ∃ F us vs, (∀ i, FF i ↔ (F i ∨ i ∈ lives s.kn) ∨ i = B ∨ i = B + 1) ∧
   (c.head [] us vs w s0).Ok ∧ Fr [] s0 (c.head [] us vs w s0) ∧ (c.head [] us vs w s0).sl = s0.sl ∧ appL c.shapes (K F) vs w ∧ w.heap[B + 1]? = some (.loop (rec st pe)) ∧ w.heap[B]? = some (.deferred (some [])) := ⟨_, rfl⟩
 have stabJ : ∀ {st pe} {K : (Nat → Prop) → FnL c.shapes (World → Prop)} {FF w w'}, (∀ F, allL c.shapes fun vs => ∀ w w', appL c.shapes (K F) vs w → Below B w w' → (∀ i, F i → w'.heap[i]? = w.heap[i]?) → appL c.shapes (K F) vs w') →
   JJ st pe K FF w → Below B w w' → (∀ i, FF i → w'.heap[i]? = w.heap[i]?) → JJ st pe K FF w' := by
  intro st pe K FF w w' hst hj hbl hsame
  rw [hJJ] at hj ⊢
  obtain ⟨F, us, vs, h1, h2, h3, h4, h5, h6, h7⟩ := hj
  refine ⟨F, us, vs, h1, ⟨fun k kb hk hl => ?_, h2.ne, h2.locs⟩, ⟨h3.len, h3.slot, h3.kn, h3.df⟩, h4, (appL_inst h5 (hst F)).1 w w' h5 hbl fun i hi => hsame i ((h1 i).2 (.inl (.inl hi))), ?_, ?_⟩
  ·have := h2.blk k kb hk hl
   refine (hsame kb.idx ((h1 _).2 (.inl (.inr ?_)))).trans this
   have hm := lives_mem hk hl
   rw [show (c.head [] us vs w' s0).kn = zipBlocks s0.kn c.blocks (vs.drop c.slots.length) from rfl, lives_zip, e0.2.2.1] at hm
   exact hm
  ·rw [hsame _ ((h1 _).2 (.inr (.inr rfl)))]; exact h6
  ·rw [hsame _ ((h1 _).2 (.inr (.inl rfl)))]; exact h7
 have boundJ : ∀ {st pe} {K : (Nat → Prop) → FnL c.shapes (World → Prop)} {FF w}, (∀ F, allL c.shapes fun vs => ∀ w, appL c.shapes (K F) vs w → ∀ i, F i → i < w.heap.size ∧ i ≠ B ∧ i ≠ B + 1) →
   JJ st pe K FF w → ∀ i, FF i → i < w.heap.size := by
  intro st pe K FF w hbd hj i hi
  rw [hJJ] at hj
  obtain ⟨F, us, vs, h1, h2, h3, h4, h5, h6, h7⟩ := hj
  have hz := (ali22.1 h6).1
  rcases (h1 i).1 hi with (hi | hi) | rfl | rfl
  ·exact ((appL_inst h5 (hbd F)).1 w h5 i hi).1
  ·have := hlv hi; omega
  ·omega
  ·omega
 have mkJ : ∀ {st pe} {K : (Nat → Prop) → FnL c.shapes (World → Prop)} {F : Nat → Prop} {s' : St} {W : List Nat}, s'.Ok → Fr W s0 s' → c.enter s0 s' (appL c.shapes (K F)) → s'.w.heap[B + 1]? = some (.loop (rec st pe)) → s'.w.heap[B]? = some (.deferred (some [])) →
   JJ st pe K (fun i => (F i ∨ i ∈ lives s.kn) ∨ i = B ∨ i = B + 1) s'.w := by
  intro st pe K F s' W h1 h2 h3 h4 h5
  obtain ⟨us, g1, g2, g3, g4⟩ := head0_ok hcs hok0 h1 h2 h3
  rw [hJJ]
  exact ⟨F, us, c.vals s', fun i => Iff.rfl, g2, g3, g4, g1, h4, h5⟩
 obtain ⟨y, hy⟩ : ∃ y, y = Value.func (.yield (B + 1)) #[] #[] := ⟨_, rfl⟩
 have hok1 : ({ s0 with w := W1 } : St).Ok := ⟨fun k kb h1 h2 => by
  have := hok0.blk k kb h1 h2
  rw [e0.2.1] at this
  rw [← this]
  exact hb1.block _ (by rw [hB]; exact (ali22.1 this).1), hok0.ne, hok0.locs⟩
 have hcall := hit y B (fun m => JJ .ready none (I m)) (fun _ FF w => ∃ j, (jumpsOf body).contains j = true ∧ JJ .done (some (codeJ j)) (X j) FF w)
  (fun i => (F0 i ∨ i ∈ lives s.kn) ∨ i = B ∨ i = B + 1) W1 omm
  (fun m FF w w' => stabJ (hsI m)) (fun _ FF w w' hj hbl hs => by
   obtain ⟨e, he, hj⟩ := hj
   exact ⟨e, he, stabJ (hsX e) hj hbl hs⟩)
  (fun m FF w => boundJ (hbI m))
  (fun i hi => by
   obtain ⟨h1, h2, h3⟩ := hRd i hi
   rw [AndL_iff] at h3
   refine ⟨?_, by omega, rfl⟩
   rintro ((h4 | h4) | h4 | h4)
   ·exact h2 h4
   ·exact h3.1 (i ≠ i) (ali06.2 ⟨i, h4, rfl⟩) rfl
   ·omega
   ·omega)
  ?_ (mkJ (s' := { s0 with w := W1 }) (W := []) hok1 ⟨rfl, fun _ _ => rfl, Idx.refl _, ali34 _, fun _ => rfl⟩ (by rw [hs0] at hen ⊢; exact hen) hL1 hD1)
 ·
  rw [hg] at hcall
  unfold callV at hcall
  simp only [hbd] at hcall
  unfold hasBody at hbd
  split at hbd
  case h_2 => cases hbd
  rename_i fn' hf'
  split at hbd
  case h_2 => cases hbd
  rename_i body' hbody'
  have hn' := hP f fn' hf'
  refine ⟨B + 1, [{ target := .collected B, args := #[] }], W1, { target := .fn (.func f) cap, args := first ++ #[y] }, W1, f, first ++ #[y] ++ cap, W1, ?_, ?_, fun _ _ => trivial, ?_, wide_depth, callsIn_wide.2 ?_⟩
  ·rw [← hW1, hrec, hB]; exact run_enterLoop_outer _ _ _ _ _
  ·have hev : s.act.eval g = .func (.func f) first cap := by rw [St.eval_act]; exact hg
   simp only [resolve, hev, Deferred.ofValue, hy]
   simp [Act.eval]
  ·simp only [invoke, callFunc]
   simp [program, Sem.run, hf', hn', hbody']
  ·have harg : (first.toList ++ [y] ++ cap.toList).toArray = first ++ #[y] ++ cap := by apply Array.ext'; simp
   rw [harg] at hcall
   refine hcall.mono ?_
   have fin : ∀ {st pe} {K : (Nat → Prop) → FnL c.shapes (World → Prop)} {FF w w4} {e : Exit}, JJ st pe K FF w → Rec (B + 1) w w4 → (∀ F, allL c.shapes fun vs => ∀ w w', appL c.shapes (K F) vs w → Below B w w' → (∀ i, F i → w'.heap[i]? = w.heap[i]?) → appL c.shapes (K F) vs w') →
     (∀ F, allL c.shapes fun vs => ∀ w, appL c.shapes (K F) vs w → ∀ i, F i → i < w.heap.size ∧ i ≠ B ∧ i ≠ B + 1) →
     (∀ F (us : Nat → Value), allL c.shapes fun vs => ∀ w, appL c.shapes (K F) vs w → w.heap[B]? = some (.deferred (some [])) → Q e { c.head [] us vs w s with df := B :: s.df }) →
     PostC (writes (.rangeFunc g ps assign body)) s Q e { tmps := s.act.tmps, defers := { target := .collected B, args := #[] } :: s.act.defers } w4 := by
    intro st pe K FF w w4 e hj hr hst hbd hq
    rw [hJJ] at hj
    obtain ⟨F, us, vs, h1, h2, h3, h4, h5, h6, h7⟩ := hj
    have h5' := (appL_inst h5 (hst F)).1 w w4 h5 (hr.below omm) fun i hi => hr.same i ((appL_inst h5 (hbd F)).1 w h5 i hi).2.2
    have h7' : w4.heap[B]? = some (.deferred (some [])) := by rw [hr.same _ omm]; exact h7
    have hkn : (c.head [] us vs w4 s).kn = (c.head [] us vs w s0).kn := by
     show zipBlocks s.kn _ _ = zipBlocks s0.kn _ _
     rw [e0.2.2.1]
    have hsl : (c.head [] us vs w4 s).sl = s.sl := by
     show zipSlots (havocFrom us [] 0 s.sl) c.slots vs = _
     rw [hcs, havoc_nil]; rfl
    have hidx : Idx s.kn (c.head [] us vs w4 s).kn := by rw [hkn, ← e0.2.2.1]; exact h3.kn
    refine .inl ⟨{ c.head [] us vs w4 s with df := B :: s.df }, ⟨fun k kb hk hl => ?_, fun i j x z hi hj => ?_, fun i v hv => ?_⟩, ?_, rfl, ⟨by show (c.head [] us vs w4 s).sl.length = _; rw [hsl], fun i _ => ?_, hidx, by simp, fun h => by simp at h⟩, (appL_inst h5' (hq F us)).1 w4 h5' h7'⟩
    ·have hk' : (c.head [] us vs w s0).kn[k]? = some kb := by rw [← hkn]; exact hk
     have hh := h2.blk k kb hk' hl
     show w4.heap[kb.idx]? = _
     rw [← hh]
     refine hr.same _ fun e => ?_
     rw [show (c.head [] us vs w s0).w = w from rfl, e, h6] at hh
     cases hh
    ·exact h2.ne i j x z (by rw [← hkn]; exact hi) (by rw [← hkn]; exact hj)
    ·show v.inB (c.head [] us vs w4 s).kn.length
     rw [show ({ c.head [] us vs w4 s with df := B :: s.df } : St).sl = (c.head [] us vs w4 s).sl from rfl, hsl] at hv
     exact (hok.locs i v hv).mono hidx.length
    ·show ({ tmps := ((c.head [] us vs w4 s).sl.map (SV.conc (c.head [] us vs w4 s).kn)).toArray, defers := marks (B :: s.df) } : Act) = _
     rw [hsl]
     have : s.sl.map (SV.conc (c.head [] us vs w4 s).kn) = s.sl.map (SV.conc s.kn) := by
      refine alj34 fun x hx => ?_
      obtain ⟨i, hi⟩ := alj26 hx
      exact hidx.conc (hok.locs i x hi)
     rw [this]; rfl
    ·show ((c.head [] us vs w4 s).sl.getD i (.val undef)).conc (c.head [] us vs w4 s).kn = _
     rw [hsl]
     simp only [ali05]
     cases hg : s.sl[i]? with
     | none => rfl
     | some u => exact hidx.conc (hok.locs i u hg)
   rintro e w3 ⟨⟨v, rfl⟩, (⟨FF, hj⟩ | ⟨FF, j, he, hj⟩)⟩
   ·have hl : w3.heap[B + 1]? = some (.loop (rec .ready none)) := by
     have := hj
     rw [hJJ] at this
     obtain ⟨F, us, vs, h1, h2, h3, h4, h5, h6, h7⟩ := this
     exact h6
    have hend := run_endLoop (P := P) hl (by rw [hrec]; simp)
    rw [hrec] at hend
    exact ⟨none, _, hend, fin hj (Rec.putObj _ _ _) (hsI _) (hbI _) hdone⟩
   ·have hl : w3.heap[B + 1]? = some (.loop (rec .done (some (codeJ j)))) := by
     have := hj
     rw [hJJ] at this
     obtain ⟨F, us, vs, h1, h2, h3, h4, h5, h6, h7⟩ := this
     exact h6
    have hend := run_endLoop (P := P) hl (by rw [hrec]; simp)
    rw [hrec] at hend
    refine ⟨some (codeJ j), _, hend, ?_⟩
    have hq := AndJ_all hexit j (List.contains_iff_mem.1 he)
    cases j with
    | none => exact wpIn_ret (fin hj (Rec.putObj _ _ _) (hsX _) (hbX _) hq)
    | some id => exact wpIn_exit (fin hj (Rec.putObj _ _ _) (hsX _) (hbX _) hq)
 ·
  intro m x FF w hx hj
  have hj' := hj
  rw [hJJ] at hj'
  obtain ⟨F, us, vs, h1, h2, h3, h4, h5, h6, h7⟩ := hj'
  have hz := (ali22.1 h6).1
  obtain ⟨x', hxe, hxl, hxa⟩ := ex1_all (hsh x (ali00 hx))
  subst hxe
  have hyr := run_yield (P := P) (args := x.toArray) h6 (by rw [hrec]; simp [hxl, htl])
  rw [hy]
  refine ⟨⟨rfl, rfl⟩, _, _, _, _, hyr, ?_⟩
  have hFb : ∀ i, F i → i < w.heap.size ∧ i ≠ B ∧ i ≠ B + 1 := (appL_inst h5 (hbI m F)).1 w h5
  have hkn : (c.head [] us vs w s0).kn.length = s0.kn.length ∧ Idx s0.kn (c.head [] us vs w s0).kn := ⟨by
   show (zipBlocks s0.kn c.blocks _).length = _
   have : ∀ (bs : List (Nat × List S)) (kn : List KB) (vs : List Value), (zipBlocks kn bs vs).length = kn.length := by
    intro bs
    induction bs with
    | nil => intro kn vs; rfl
    | cons p r ih => intro kn vs; obtain ⟨k, ss⟩ := p; show (zipBlocks _ r _).length = _; rw [ih]; simp
   exact this _ _ _, h3.kn⟩
  have hvc := hxa _ ((appL_inst h5 (hround m F us)).1) w hx h5
  obtain ⟨sA, hsA⟩ : ∃ sA : St, sA = { c.head [] us vs w s0 with sl := (ps.toList.zip x).foldl (fun sl p => sl.set p.1 (.val p.2)) (c.head [] us vs w s0).sl } := ⟨_, rfl⟩
  rw [← hsA] at hvc
  have hokA : sA.Ok := by
   rw [hsA]
   exact ⟨h2.blk, h2.ne, fold_inB _ _ h2.locs⟩
  have hwA : sA.w = w := by rw [hsA]; rfl
  have hactA : sA.act = { tmps := (ps.zip x.toArray).foldl (fun tmps (p : Tmp × Value) => tmps.setIfInBounds p.1 p.2) s.act.tmps, defers := [] } := by
   rw [hsA]
   show ({ tmps := (((ps.toList.zip x).foldl (fun sl p => sl.set p.1 (.val p.2)) (c.head [] us vs w s0).sl).map (SV.conc (c.head [] us vs w s0).kn)).toArray, defers := marks s0.df } : Act) = _
   rw [fold_act, fold_arr, h4, e0.2.2.2]
   have ht : s0.sl.map (SV.conc (c.head [] us vs w s0).kn) = s.sl.map (SV.conc s.kn) := by
    rw [e0.1, ← e0.2.2.1]
    refine alj34 fun u hu => ?_
    obtain ⟨i, hi⟩ := alj26 hu
    exact hkn.2.conc (hok0.locs i u (by rw [e0.1]; exact hi))
   rw [ht]
   congr 1
   rw [← Array.foldl_toList, Array.toList_zip]
   rfl
  have hfrA : Fr ps.toList s0 sA := by
   rw [hsA]
   refine ⟨by show (List.foldl (fun sl (p : Tmp × Value) => sl.set p.1 (SV.val p.2)) (c.head [] us vs w s0).sl (ps.toList.zip x)).length = _; rw [fold_len, h4], fun i hi => ?_, h3.kn, ali34 _, fun _ => rfl⟩
   have : ((ps.toList.zip x).foldl (fun sl p => sl.set p.1 (.val p.2)) (c.head [] us vs w s0).sl)[i]? = (c.head [] us vs w s0).sl[i]? := fold_slot _ _ _ (fun hm => hi (by
    obtain ⟨p, hp, rfl⟩ := ali06.1 hm
    exact (List.of_mem_zip hp).1))
   have h3s := h3.slot i smm
   simp only [ali05] at h3s ⊢
   rw [this]; exact h3s
  have hA := ha (B + 1) sA _ hn1 hokA hvc
  rw [hactA, hwA] at hA
  refine roundIn_of_wpIn trivial ?_
  rw [hrec]
  refine wpIn_mono hA ?_
  rintro e a1 w1 (⟨s1, k1, rfl, rfl, k4, k5⟩ | ⟨q, c', hq', -⟩)
  case inr => rw [hpq] at hq'; cases hq'
  cases e with
  | normal =>
    obtain ⟨hext, hbody⟩ := k5
    have hl1 : s1.w.heap[B + 1]? = some (.loop (rec .ready none)) := by rw [hext.block _ hz]; exact h6
    have hd1 : s1.w.heap[B]? = some (.deferred (some [])) := by rw [hext.block _ omm]; exact h7
    have hbr := run_beginRound (P := P) hl1 (by rw [hrec])
    refine ⟨_, hbr, ?_⟩
    obtain ⟨w2, hw2⟩ : ∃ w2, w2 = s1.w.putObj (B + 1) (.loop { rec .ready none with state := .busy }) := ⟨_, rfl⟩
    have hR2 : Rec (B + 1) s1.w w2 := by rw [hw2]; exact Rec.putObj _ _ _
    have hz1' := hext.size
    have hl2 : w2.heap[B + 1]? = some (.loop { rec .ready none with state := .busy }) := by rw [hw2]; exact World.putObj_heap_same omm
    have hd2 : w2.heap[B]? = some (.deferred (some [])) := by rw [hR2.same _ omm]; exact hd1
    have h5b := (appL_inst h5 (hsI m F)).1 w w2 h5 ((Below.mono hext omm).trans (hR2.below omm)) fun i hi => by
     obtain ⟨g1, g2, g3⟩ := hFb i hi
     rw [hR2.same i g3]; exact hext.block i g1
    have hok2 := Ok_rec k1 (fun c t f e => by rw [hl1] at e; cases e) hR2
    have hB2 := hb (B + 1) { s1 with w := w2 } _ hn2 hok2 (hbody w2 hR2 h5b)
    rw [show w2 = ({ s1 with w := w2 } : St).w from rfl, hw2] at hB2
    rw [← hw2]
    rw [← hw2] at hB2
    refine wpIn_mono hB2 ?_
    have hz2 := hR2.size
    have nF : ¬ ((F (B + 1) ∨ B + 1 ∈ lives s.kn) ∨ w.heap.size ≤ B + 1) := by
     rintro ((hh | hh) | hh)
     ·exact (hFb _ hh).2.2 rfl
     ·have := hlv hh; omega
     ·omega
    have nD : ¬ ((F B ∨ B ∈ lives s.kn) ∨ w.heap.size ≤ B) := by
     rintro ((hh | hh) | hh)
     ·exact (hFb _ hh).2.1 rfl
     ·have := hlv hh; omega
     ·omega
    have turn : ∀ {F' : Nat → Prop} {w' w3 : World}, Step (fun i => (F i ∨ i ∈ lives s.kn) ∨ w.heap.size ≤ i) (fun i => F' i ∨ i ∈ lives s.kn) w2 w' → Rec (B + 1) w' w3 → Step FF (fun i => (F' i ∨ i ∈ lives s.kn) ∨ i = B ∨ i = B + 1) w w3 := by
     intro F' w' w3 hs hr
     refine ⟨fun i hi => ?_, ?_, fun i hi hn => ?_⟩
     ·rcases hi with hi | hi
      ·rcases hs.sub i hi with (hh | hh) | hh
       ·exact .inl ((h1 i).2 (.inl hh))
       ·exact .inr hh
       ·exact .inr omm
      ·exact .inl ((h1 i).2 (.inr hi))
     ·have := hs.size; have := hr.size; omega
     ·have hn' : ¬ (F i ∨ i ∈ lives s.kn) := fun hh => hn ((h1 i).2 (.inl hh))
      have hnb : i ≠ B + 1 := fun hh => hn ((h1 i).2 (.inr (.inr hh)))
      rw [hr.same i hnb, hs.same i omm (fun hh => hh.elim hn' fun hh => by omega), hR2.same i hnb, hext.block i hi]
    have frs : ∀ {s2 : St}, Fr (writes body) { s1 with w := w2 } s2 → Fr (ps.toList ++ writes assign ++ writes body) s0 s2 := fun {s2} hh =>
     (hfrA.mono fun i hi => alj37 _ (alj37 _ hi)).trans (Fr.trans (b := { s1 with w := w2 }) (Fr.mono (W := writes assign) (W' := ps.toList ++ writes assign ++ writes body) (b := { s1 with w := w2 }) ⟨k4.len, k4.slot, k4.kn, k4.df⟩ fun i hi => alj37 _ (alj38 _ hi)) (hh.mono fun i hi => alj38 _ hi))
    have jump : ∀ (j : Option Nat) (s2 : St), (jumpsOf body).contains j = true → s2.Ok → Fr (writes body) { s1 with w := w2 } s2 →
      (∃ F', c.enter s0 s2 (appL c.shapes (X j F')) ∧ Step (fun i => (F i ∨ i ∈ lives s.kn) ∨ w.heap.size ≤ i) (fun i => F' i ∨ i ∈ lives s.kn) w2 s2.w) →
      ∃ v w3, (Instr.endRound (B + 1) (some (codeJ j))).run P s2.w = .ok v w3 ∧ ((Ending.returned v = .returned (.bool true) ∧ ∃ F', JJ .ready none (I (m + 1)) F' w3 ∧ Step FF F' w w3) ∨
       (Ending.returned v = .returned (.bool false) ∧ ∃ F', (∃ j, (jumpsOf body).contains j = true ∧ JJ .done (some (codeJ j)) (X j) F' w3) ∧ Step FF F' w w3)) := by
     rintro j s2 he l1 l4 ⟨F', hen2, hst⟩
     generalize hcd : codeJ j = cd
     have hl3 : s2.w.heap[B + 1]? = some (.loop { rec .ready none with state := .busy }) := by rw [hst.same _ omm nF]; exact hl2
     have hd3 : s2.w.heap[B]? = some (.deferred (some [])) := by rw [hst.same _ omm nD]; exact hd2
     have hend := run_endRound (P := P) (some cd) hl3
     have hrc : ({ ({ rec .ready none with state := .busy } : Loop) with state := if (some cd).isNone then .ready else .done, pending := some cd } : Loop) = rec .done (some cd) := by rw [hrec]; rfl
     rw [hrc] at hend
     have hR3 := Rec.putObj s2.w (B + 1) (.loop (rec .done (some cd)))
     refine ⟨_, _, hend, .inr ⟨rfl, _, ⟨j, he, ?_⟩, turn hst hR3⟩⟩
     rw [hcd]
     have hok3 := Ok_rec l1 (fun c t f e => by rw [hl3] at e; cases e) hR3
     have hsz := hst.size
     have hbX' : ∀ i, F' i → i < s2.w.heap.size ∧ i ≠ B ∧ i ≠ B + 1 := by
      obtain ⟨us', g1, _⟩ := head0_ok hcs hok0 l1 (frs l4) hen2
      exact (appL_inst g1 (hbX j F')).1 _ g1
     have hen3 : c.enter s0 { s2 with w := s2.w.putObj (B + 1) (.loop (rec .done (some cd))) } (appL c.shapes (X j F')) := by
      unfold Carry.enter at hen2 ⊢
      split at hen2
      ·rename_i hbb
       rw [show (c.keepB s0 { s2 with w := s2.w.putObj (B + 1) (.loop (rec .done (some cd))) } && c.okB { s2 with w := s2.w.putObj (B + 1) (.loop (rec .done (some cd))) }) = true from hbb]
       rw [AndL_iff] at hen2 ⊢
       exact ⟨hen2.1, (appL_inst hen2.2 (hsX j F')).1 _ _ hen2.2 (hR3.below omm) fun i hi => hR3.same i (hbX' i hi).2.2⟩
      ·exact hen2.elim
     refine mkJ (s' := { s2 with w := s2.w.putObj (B + 1) (.loop (rec .done (some cd))) }) (W := ps.toList ++ writes assign ++ writes body) hok3 ⟨(frs l4).len, (frs l4).slot, (frs l4).kn, (frs l4).df⟩ hen3 (World.putObj_heap_same omm) ?_
     rw [hR3.same _ omm]; exact hd3
    rintro e a3 w3 (⟨s2, l1, rfl, rfl, l4, l5⟩ | ⟨q, c', hq', -⟩)
    case inr => rw [hpq] at hq'; cases hq'
    cases e with
    | normal =>
      obtain ⟨F', hen2, hst⟩ := l5
      have hst : Step (fun i => (F i ∨ i ∈ lives s.kn) ∨ w.heap.size ≤ i) (fun i => F' i ∨ i ∈ lives s.kn) w2 s2.w := hst
      have hl3 : s2.w.heap[B + 1]? = some (.loop { rec .ready none with state := .busy }) := by rw [hst.same _ omm nF]; exact hl2
      have hd3 : s2.w.heap[B]? = some (.deferred (some [])) := by rw [hst.same _ omm nD]; exact hd2
      have hend := run_endRound (P := P) none hl3
      have hrc : ({ ({ rec .ready none with state := .busy } : Loop) with state := if (none : Option Code).isNone then .ready else .done, pending := none } : Loop) = rec .ready none := by rw [hrec]; rfl
      rw [hrc] at hend
      have hR3 := Rec.putObj s2.w (B + 1) (.loop (rec .ready none))
      refine ⟨_, _, hend, .inl ⟨rfl, _, ?_, turn hst hR3⟩⟩
      have hok3 := Ok_rec l1 (fun c t f e => by rw [hl3] at e; cases e) hR3
      have hsz := hst.size
      have hbI' : ∀ i, F' i → i < s2.w.heap.size ∧ i ≠ B ∧ i ≠ B + 1 := by
       obtain ⟨us', g1, _⟩ := head0_ok hcs hok0 l1 (frs l4) hen2
       exact (appL_inst g1 (hbI (m + 1) F')).1 _ g1
      have hen3 : c.enter s0 { s2 with w := s2.w.putObj (B + 1) (.loop (rec .ready none)) } (appL c.shapes (I (m + 1) F')) := by
       unfold Carry.enter at hen2 ⊢
       split at hen2
       ·rename_i hbb
        rw [show (c.keepB s0 { s2 with w := s2.w.putObj (B + 1) (.loop (rec .ready none)) } && c.okB { s2 with w := s2.w.putObj (B + 1) (.loop (rec .ready none)) }) = true from hbb]
        rw [AndL_iff] at hen2 ⊢
        exact ⟨hen2.1, (appL_inst hen2.2 (hsI (m + 1) F')).1 _ _ hen2.2 (hR3.below omm) fun i hi => hR3.same i (hbI' i hi).2.2⟩
       ·exact hen2.elim
      refine mkJ (s' := { s2 with w := s2.w.putObj (B + 1) (.loop (rec .ready none)) }) (W := ps.toList ++ writes assign ++ writes body) hok3 ⟨(frs l4).len, (frs l4).slot, (frs l4).kn, (frs l4).df⟩ hen3 (World.putObj_heap_same omm) ?_
      rw [hR3.same _ omm]; exact hd3
    | ret => exact jump none s2 l5.1 l1 l4 l5.2
    | exit id => exact jump (some id) s2 l5.1 l1 l4 l5.2
    | goto t => exact l5.elim
    | panic ch => exact l5.elim
    | outgrown => exact l5.elim
  | _ => exact k5.elim
theorem vcCode_sound [PQ] (hP : NoNG P) (hm : P.follows .mixedOrders = true) (an : Ann) {F : Fence} {nn : Nat} (hF : Wd F) : ∀ (c : Code) (s : St) (Q : Exit → St → Prop), (F = Fence.wide ∨ noRng c = true) → s.Ok → vcCode P an c s Q → c.wpIn F nn P (PostC (writes c) s Q) s.act s.w
 | .skip, s, Q, _, hok, h => wpIn_skip (.inl ⟨s, hok, rfl, rfl, Fr.refl _ _, h⟩)
 | .region id ops draw, s, Q, _, hok, h => by
   unfold vcCode at h
   cases draw with
   | false =>
     refine wpIn_region ?_
     have he : List.range ops.size = List.range' 0 ops.toList.length := by rw [List.range_eq_range']; simp
     rw [he]
     refine wpLY_in hF ops.toList 0 _ _ (fun j hj => by simp) ?_
     exact vcList_sound hP ops.toList s (PostC (writes (.region id ops false)) s Q) (PostC_ok _ _ _) hok h fun a w hp => .inl hp
   | true =>
     simp only at h
     split at h
     case h_2 => exact h.elim
     rename_i hsel
     refine wpIn_mono (wpIn_region_any (Q := Qr (dstsOf ops.toList) s (Q .normal)) hm ?_) fun e a w hq => ?_
     ·refine wpP_any hF _ [] _ _ _ ?_
      have hok' : ({ s with w := s.w.drew } : St).Ok := ⟨hok.blk, hok.ne, hok.locs⟩
      refine vcD_sound hP hsel (dstsOf ops.toList) s (fun j o d h1 h2 => ?_) ops.size [] _ { s with w := s.w.drew } hok' ⟨rfl, fun _ _ => rfl, Idx.refl _, ali34 _, fun _ => rfl⟩ (fun q hq => by cases hq) h
      exact List.mem_filterMap.2 ⟨o, by
       have := Array.mem_of_getElem? h1
       simpa using this, h2⟩
     ·cases e with
      | normal => exact .inl hq
      | panic c => obtain ⟨q, h1, h2, h3⟩ := hq; exact .inr ⟨q, c, h1, rfl, h2, h3⟩
      | _ => exact hq.elim
 | .seq x y, s, Q, hnr, hok, h => by
   unfold vcCode at h
   have hx : F = Fence.wide ∨ noRng x = true := hnr.imp id fun h => by simp [noRng] at h; exact h.1
   have hy : F = Fence.wide ∨ noRng y = true := hnr.imp id fun h => by simp [noRng] at h; exact h.2
   split at h
   ·refine wpIn_seq (wpIn_mono (vcCode_sound (nn := nn) hP hm an hF x s _ hx hok h) fun e a w hp => ?_)
    cases e with
    | normal =>
      obtain ⟨s', h1, rfl, rfl, h4, h5⟩ := hp.get smm
      exact wpIn_mono (vcCode_sound (nn := nn) hP hm an hF y s' Q hy h1 h5) fun e a w hp => hp.of (h4.mono fun i hi => by simp [writes, hi]) fun i hi => by simp [writes, hi]
    | exit id => exact hp.of (Fr.refl _ _) fun i hi => by simp [writes, hi]
    | goto l => exact hp.of (Fr.refl _ _) fun i hi => by simp [writes, hi]
    | ret => exact hp.of (Fr.refl _ _) fun i hi => by simp [writes, hi]
    | panic ch => exact hp.of (Fr.refl _ _) fun i hi => by simp [writes, hi]
    | outgrown => exact hp.of (Fr.refl _ _) fun i hi => by simp [writes, hi]
   ·rename_i c hc
    obtain ⟨J, h1, h2⟩ := h
    obtain ⟨q1, q2, q3, q4, q5⟩ := kill_Ok (c.kills.map fun k => .loc k 0) hok
    have qa := act_kill (l := c.kills.map fun k => .loc k 0) hok
    have qf : Fr (writes (x.seq y)) s (s.kill (c.kills.map fun k => .loc k 0)) := ⟨by rw [q2], fun i _ => by
     rw [q2]
     simp only [ali05]
     cases hg : s.sl[i]? with
     | none => rfl
     | some u => exact q4.conc (hok.locs i u hg), q4, by rw [kill_df]; exact ⟨ali34 _, fun _ => rfl⟩⟩
    suffices hh : (x.seq y).wpIn F nn P (PostC (writes (x.seq y)) (s.kill (c.kills.map fun k => .loc k 0)) Q) s.act s.w from wpIn_mono hh fun e a w hp => hp.of qf fun i hi => hi
    rw [← qa, ← q3]
    generalize s.kill (c.kills.map fun k => .loc k 0) = s at *
    have hok := q1
    refine wpIn_seq (wpIn_mono (vcCode_sound (nn := nn) hP hm an hF x s _ hx hok h1) fun e a w hp => ?_)
    cases e with
    | normal =>
      obtain ⟨s', k1, rfl, rfl, k4, k5⟩ := hp.get smm
      obtain ⟨us, g1, g2, g3, g4⟩ := head_ok hok k1 k4 k5
      have hv := (appL_inst g1 (h2 us)).1 s'.w g1
      have h6 := vcCode_sound (nn := nn) hP hm an hF y _ Q hy g2 hv
      rw [g3] at h6
      exact wpIn_mono h6 fun e a w hp => hp.of (g4.mono fun i hi => by simp [writes, hi]) fun i hi => by simp [writes, hi]
    | exit id => exact hp.of (Fr.refl _ _) fun i hi => by simp [writes, hi]
    | goto l => exact hp.of (Fr.refl _ _) fun i hi => by simp [writes, hi]
    | ret => exact hp.of (Fr.refl _ _) fun i hi => by simp [writes, hi]
    | panic ch => exact hp.of (Fr.refl _ _) fun i hi => by simp [writes, hi]
    | outgrown => exact hp.of (Fr.refl _ _) fun i hi => by simp [writes, hi]
 | .cond c x y, s, Q, hnr, hok, h => by
   unfold vcCode at h
   have hx : F = Fence.wide ∨ noRng x = true := hnr.imp id fun h => by simp [noRng] at h; exact h.1
   have hy : F = Fence.wide ∨ noRng y = true := hnr.imp id fun h => by simp [noRng] at h; exact h.2
   split at h
   ·rename_i b hb
    have hc : s.act.eval c = .bool b := by rw [St.eval_act, ev_of hb]; rfl
    refine wpIn_cond_split hc (fun hb' => ?_) (fun hb' => ?_)
    ·exact wpIn_mono (vcCode_sound (nn := nn) hP hm an hF x s Q hx hok (Br.tt h hb')) fun e a w hp => hp.of (Fr.refl _ _) fun i hi => by simp [writes, hi]
    ·exact wpIn_mono (vcCode_sound (nn := nn) hP hm an hF y s Q hy hok (Br.ff h hb')) fun e a w hp => hp.of (Fr.refl _ _) fun i hi => by simp [writes, hi]
   ·exact h.elim
 | .block id x, s, Q, hx, hok, h => by
   unfold vcCode at h
   refine wpIn_block (wpIn_mono (vcCode_sound (nn := nn) hP hm an hF x s _ hx hok h) fun e a w hp => ?_)
   cases e with
   | exit id' =>
     show if id' = id then _ else _
     obtain ⟨s', k1, k2, k3, k4, k5⟩ := hp.get smm
     simp only at k5
     split
     ·rename_i e; rw [if_pos e] at k5; exact .inl ⟨s', k1, k2, k3, k4, k5⟩
     ·rename_i e; rw [if_neg e] at k5; exact .inl ⟨s', k1, k2, k3, k4, k5⟩
   | _ => exact hp
 | .loop x, s, Q, hx, hok, h => by
   unfold vcCode at h
   split at h
   ·exact h.elim
   rename_i c hc
   obtain ⟨I, ⟨n0, h0⟩, hround⟩ := h
   obtain ⟨q1, q2, q3, q4, q5⟩ := kill_Ok (c.kills.map fun k => .loc k 0) hok
   have qa := act_kill (l := c.kills.map fun k => .loc k 0) hok
   have qf : Fr (writes (.loop x)) s (s.kill (c.kills.map fun k => .loc k 0)) := ⟨by rw [q2], fun i _ => by
    rw [q2]
    simp only [ali05]
    cases hg : s.sl[i]? with
    | none => rfl
    | some u => exact q4.conc (hok.locs i u hg), q4, by rw [kill_df]; exact ⟨ali34 _, fun _ => rfl⟩⟩
   suffices hh : (Code.loop x).wpIn F nn P (PostC (writes (.loop x)) (s.kill (c.kills.map fun k => .loc k 0)) Q) s.act s.w from wpIn_mono hh fun e a w hp => hp.of qf fun i hi => hi
   rw [← qa, ← q3]
   generalize s.kill (c.kills.map fun k => .loc k 0) = s at *
   have hok := q1
   refine wpIn_loop_ghost (fun n a w => ∃ s', s'.Ok ∧ s'.act = a ∧ s'.w = w ∧ Fr (writes x) s s' ∧ c.enter s s' (appL c.shapes (I n))) n0 ⟨s, hok, rfl, rfl, Fr.refl _ _, h0⟩ ?_
   rintro n a w ⟨s', k1, rfl, rfl, k4, k5⟩
   obtain ⟨us, g1, g2, g3, g4⟩ := head_ok hok k1 k4 k5
   have hv := (appL_inst g1 (hround n us)).1 s'.w g1
   have h6 := vcCode_sound (nn := nn) hP hm an hF x _ _ hx g2 hv
   rw [g3] at h6
   refine wpIn_mono h6 fun e a w hp => ?_
   cases e with
   | normal =>
     obtain ⟨s'', l1, l2, l3, l4, m, hlt, l5⟩ := hp.get smm
     refine ⟨m, hlt, s'', l1, l2, l3, g4.trans l4, ?_⟩
     exact l5
   | exit id => exact hp.of g4 fun i hi => hi
   | goto l => exact hp.of g4 fun i hi => hi
   | ret => exact hp.of g4 fun i hi => hi
   | panic ch => exact hp.of g4 fun i hi => hi
   | outgrown => exact hp.of g4 fun i hi => hi
 | .exit id, s, Q, _, hok, h => wpIn_exit (.inl ⟨s, hok, rfl, rfl, Fr.refl _ _, h⟩)
 | .ret, s, Q, _, hok, h => wpIn_ret (.inl ⟨s, hok, rfl, rfl, Fr.refl _ _, h⟩)
 | .rangeFunc g ps assign body, s, Q, hnr, hok, h => by
   have hw : F = Fence.wide := hnr.resolve_right (by simp [noRng])
   subst hw
   exact rngSound hP hok (fun l s Q h1 h2 h3 => vcCode_sound hP hm an (Wd.round l) assign s Q (.inr h1) h2 h3) (fun l s Q h1 h2 h3 => vcCode_sound hP hm an (Wd.round l) body s Q (.inr h1) h2 h3) h
 | .scope x, s, Q, hnr, hok, h => by
   have hw : F = Fence.wide := hnr.resolve_right (by simp [noRng])
   subst hw
   unfold vcCode at h
   refine wpIn_wide.2 (wp_scope_straight (wp_mono (wpIn_wide.1 (vcCode_sound (nn := 0) hP hm an hF x s _ (.inl rfl) hok h)) fun e a w hp => ?_))
   cases e with
   | goto l => obtain ⟨s', _, _, _, _, k5⟩ := hp.get smm; exact k5.elim
   | _ => exact hp
 | .label l, s, Q, _, hok, h => wpIn_label (.inl ⟨s, hok, rfl, rfl, Fr.refl _ _, h⟩)
 | .goto _, _, _, _, _, h => h.elim
 | .refuse _, _, _, _, _, h => h.elim
end
def loadRes (P : Program) (s : St) (t : TypeId) (x : SV) (K : Value → Prop) : Prop :=
 match x with
 | .loc k off => match s.known k with
   | some kb => match t1Of P t with
     | .sc _ => match kb.cells[off]? with | some v => K v | none => False
     | .agg l => if l.length = sizeAt P t ∧ off + l.length ≤ kb.cells.length then K (.agg ((kb.cells.drop off).take l.length).toArray) else False
   | none => loadV P s.w (some ⟨(s.kn.getD k default).idx, off, none⟩) t K
 | .val (.pointer p) => loadV P s.w p t K
 | _ => False
def resVals (P : Program) (s : St) : List ResultVar → (List Value → Prop) → Prop
 | [], F => F []
 | .tmp t :: r, F => resVals P s r fun vs => F ((s.sl.getD t (.val undef)).conc s.kn :: vs)
 | .cell a t :: r, F => match okT P t with
   | true => loadRes P s t (s.sl.getD a (.val undef)) fun v => resVals P s r fun vs => F (v :: vs)
   | false => False
def oneOr : List Value → Value
 | [v] => v
 | vs => .tuple vs.toArray
def takeMarks : List Nat → World → (World → Prop) → Prop
 | [], w, K => K w
 | D :: r, w, K => w.heap[D]? = some (.deferred (some [])) ∧ ∀ w', Rec D w w' → takeMarks r w' K
def retQ (P : Program) (fn : Func) (R : Ending → World → Prop) : Exit → St → Prop
 | .normal, s | .ret, s => takeMarks s.df s.w fun w' => resVals P { s with w := w' } fn.results.toList fun vs => R (.returned (oneOr vs)) w'
 | _, _ => False
def initSt (fn : Func) (args : List Value) (w : World) : St :=
 { sl := args.map .val ++ List.replicate (fn.ntmps - args.length) (.val undef), w := w, kn := [] }
def vcFnG [PQ] (P : Program) (an : Ann) (fn : Func) (args : List Value) (w : World) (R : Ending → World → Prop) : Prop :=
 match fn.body with
 | some c => vcCode P an c (initSt fn args w) (retQ P fn R)
 | none => False
section
variable {P : Program} {s : St}
theorem loadRes_run {t : TypeId} {x : SV} {K : Value → Prop} (hok : s.Ok) (hu : (P.underlying t).isSome = true) (h : loadRes P s t x K) :
  ∃ a v, x.conc s.kn = .pointer (some a) ∧ K v ∧ (loadVar t a).run P s.w = .ok v s.w := by
 have h' : loadOp P { s with sl := [.val undef] } (some 0) t x (fun s' => K ((s'.sl.getD 0 (.val undef)).conc s'.kn)) := by
  unfold loadRes at h
  unfold loadOp
  exact h
 have hok' : ({ s with sl := [.val undef] } : St).Ok := ⟨hok.blk, hok.ne, fun i v hv => by
  cases i with
  | zero => simp at hv; subst hv; trivial
  | succ i => simp at hv⟩
 obtain ⟨a, v, h1, h2, h3⟩ := loadOp_run hok' hu h'
 refine ⟨a, v, h1, h2, ?_⟩
 simpa [Instr.loadAt, Instr.sureAddr] using h3
def resOne (tmps : Array Value) : ResultVar → Sem Value
 | .tmp t => pure (tmps.getD t undef)
 | .cell a t => do loadVar t (← asAddr (tmps.getD a undef))
theorem resVals_run (hok : s.Ok) : ∀ (l : List ResultVar) (F : List Value → Prop), resVals P s l F →
  ∃ vs, F vs ∧ (l.mapM (resOne s.act.tmps)).run P s.w = .ok vs s.w
 | [], F, h => ⟨[], h, rfl⟩
 | .tmp t :: r, F, h => by
   obtain ⟨vs, h1, h2⟩ := resVals_run hok r _ h
   refine ⟨_, h1, ?_⟩
   have : s.act.tmps.getD t undef = (s.sl.getD t (.val undef)).conc s.kn := s.eval_act (.tmp t)
   simp only [List.mapM_cons, Sem.run_bind, resOne, Sem.run_pure, Result.andThen_ok, h2, this]
 | .cell a t :: r, F, h => by
   unfold resVals at h
   split at h
   ·rename_i hu
    obtain ⟨ad, v, e1, e2, e3⟩ := loadRes_run hok (okT_true hu) h
    obtain ⟨vs, h1, h2⟩ := resVals_run hok r _ e2
    refine ⟨_, h1, ?_⟩
    have : s.act.tmps.getD a undef = .pointer (some ad) := (s.eval_act (.tmp a)).trans e1
    simp only [List.mapM_cons, Sem.run_bind, resOne, this, asAddr, Sem.run_pure, Result.andThen_ok, e3, h2]
   ·exact h.elim
theorem results_run (hok : s.Ok) {fn : Func} {F : List Value → Prop} (h : resVals P s fn.results.toList F) :
  ∃ vs, F vs ∧ (results fn s.act.tmps).run P s.w = .ok (oneOr vs) s.w := by
 obtain ⟨vs, h1, h2⟩ := resVals_run hok _ _ h
 refine ⟨vs, h1, ?_⟩
 have : results fn s.act.tmps = (do let vs ← fn.results.mapM (resOne s.act.tmps); pure (if h : vs.size = 1 then vs[0] else .tuple vs)) := by
  unfold results
  congr 1
 rw [this, Array.mapM_eq_mapM_toList]
 simp only [Sem.run_bind, Sem.run_map, h2, Result.andThen_ok, Sem.run_pure]
 congr 1
 cases vs with
 | nil => rfl
 | cons v r => cases r <;> simp [oneOr]
end
section
variable {P : Program}
theorem initSt_ok (fn : Func) (args : List Value) (w : World) : (initSt fn args w).Ok :=
 ⟨fun k kb h => by simp [initSt] at h, fun i j x y h => by simp [initSt] at h, fun i v h => by
  simp only [initSt, List.getElem?_append, ali02, ali47] at h
  split at h
  ·cases ha : args[i]? with
   | none => simp [ha] at h
   | some x => simp [ha] at h; subst h; trivial
  ·split at h
   ·simp at h; subst h; trivial
   ·cases h⟩
theorem leaves_marks {fn : Func} {R : Ending → World → Prop} : ∀ (l : List Nat) (s : St), s.Ok → takeMarks l s.w (fun w' => resVals P { s with w := w' } fn.results.toList fun vs => R (.returned (oneOr vs)) w') →
  LeavesInM Fence.wide 0 P fn s.act.tmps R (marks l) .returning s.w
 | [], s, hok, h => by
   obtain ⟨vs, h1, h2⟩ := results_run hok h
   exact ⟨_, h2, h1⟩
 | D :: r, s, hok, h => by
   obtain ⟨hD, h⟩ := h
   refine ⟨by simp, .inl ⟨D, s.w.putObj D (.deferred none), rfl, run_takeDeferred hD, ?_⟩⟩
   have hr := Rec.putObj s.w D (.deferred none)
   have hok' := Ok_rec hok (fun c t f e => by rw [hD] at e; cases e) hr
   exact leaves_marks r { s with w := s.w.putObj D (.deferred none) } hok' (h _ hr)
theorem calls_of_vcG [PQ] (hP : NoNG P) (hm : P.follows .mixedOrders = true) {f : FuncId} {fn : Func} {an : Ann} {args : List Value} {w : World} {R : Ending → World → Prop} (hR : ∀ q, PQ.q = some q → ∀ c w, q c w → R (.panicked c) w) (hf : P.funcs[f]? = some fn)
  (h : vcFnG P an fn args w R) : Calls P f args.toArray w R := by
 unfold vcFnG at h
 split at h
 case h_2 => exact h.elim
 rename_i c hc
 have h1 := vcCode_sound (nn := 0) hP hm an Wd.out c _ _ (.inl rfl) (initSt_ok fn args w) h
 refine callsIn_wide.1 (callsIn_of_wp_marks (n := 0) hf hc trivial ?_)
 have hact : (initSt fn args w).act = { tmps := args.toArray ++ Array.replicate (fn.ntmps - args.toArray.size) undef, defers := [] } := by
  simp only [St.act, initSt]
  congr 1
  apply Array.ext'
  simp [SV.conc]
  rw [show (SV.conc [] ∘ SV.val) = id from rfl]
  simp
 rw [hact] at h1
 refine wpIn_mono h1 fun e a w' hp => ?_
 rcases hp with ⟨s', k1, rfl, rfl, k4, k5⟩ | ⟨q, c, hq, rfl, hd, hc⟩
 case inr =>
  have := hR q hq c _ hc
  show LeavesInM _ _ _ _ _ _ _ _ _
  rw [hd]
  exact this
 cases e with
 | normal => exact leaves_marks s'.df s' k1 k5
 | ret => exact leaves_marks s'.df s' k1 k5
 | _ => exact k5.elim
def vcFn (P : Program) (an : Ann) (fn : Func) (args : List Value) (w : World) (R : Ending → World → Prop) : Prop := @vcFnG ⟨none⟩ P an fn args w R
def vcFnP (P : Program) (an : Ann) (fn : Func) (args : List Value) (w : World) (R : Ending → World → Prop) : Prop := @vcFnG ⟨some fun c w => R (.panicked c) w⟩ P an fn args w R
theorem calls_of_vc (hP : NoNG P) (hm : P.follows .mixedOrders = true) {f : FuncId} {fn : Func} {an : Ann} {args : List Value} {w : World} {R : Ending → World → Prop} (hf : P.funcs[f]? = some fn)
  (h : vcFn P an fn args w R) : Calls P f args.toArray w R := @calls_of_vcG P ⟨none⟩ hP hm f fn an args w R (fun _ hq => by cases hq) hf h
theorem calls_of_vcP (hP : NoNG P) (hm : P.follows .mixedOrders = true) {f : FuncId} {fn : Func} {an : Ann} {args : List Value} {w : World} {R : Ending → World → Prop} (hf : P.funcs[f]? = some fn)
  (h : vcFnP P an fn args w R) : Calls P f args.toArray w R := @calls_of_vcG P ⟨some fun c w => R (.panicked c) w⟩ hP hm f fn an args w R (fun _ hq _ _ hc => by cases hq; exact hc) hf h
end
end Go.Vc
