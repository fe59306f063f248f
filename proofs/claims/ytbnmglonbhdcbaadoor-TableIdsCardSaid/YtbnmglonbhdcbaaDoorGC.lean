import Derived.Test.YtbnmglonbhdcbaaDoorG
set_option linter.all false
namespace Go.Proofs.YtbnmglonbhdcbaaDoor
open Go Go.Vc Go.RowKit Go.Proofs
set_option maxRecDepth 100000
set_option maxHeartbeats 8000000
set_option linter.unusedVariables false
abbrev n_law12_TableRow : FuncId := 4
/- breccia/breccialaw12.TableRow  -/
def law12_TableRow.pre (a0 : Sl) (a1 : Int) (w : World) (R : Ending → World → Prop) : Prop :=
 Calls Tryd.prog 8 #[.int .i64 0, .int .i64 a1, .int .i64 0] w (fun e w0 => ∃ (p1 : Option Addr), e = .returned (.pointer p1) ∧ 
 Br (p1).isNone
 (R (.returned (.bool false)) w0)
 (∃ I2 : Nat → Int → Sl → World → Prop,
 (∃ n3, I2 n3 (0) ⟨none, 0, 0⟩ w0) ∧
 ∀ (n3 : Nat) (us4 : Nat → Value) (x5 : Int) (s6 : Sl) (w7 : World), I2 n3 x5 s6 w7 →
 Br (decide ((x5 : Int) < ((a0.n : Nat) : Int)))
 (Br (decide ((x5 : Int) < 10))
 (InB a0.a x5 a0.n ∧ ∃ (x9 : Int) (x10 : Int), LoadL w7 (padd a0.a ((x5 : Int).toNat * 2)) 0 [.int .i64 x9, .int .i64 x10] ∧
 Calls Tryd.prog 11 #[.agg #[.int .i64 x9, .int .i64 x10]] w7 (fun e w11 => ∃ (x12 : Int) (x13 : Int), e = .returned (.agg #[.int .i64 x12, .int .i64 x13]) ∧ 
 ∀ w14 : World, w14 = w11.alloc (.cells #[.int .i64 0, .int .i64 0] 23) →
 ∀ w15 : World, w15 = w14.setRow w11.heap.size #[.int .i64 x12, .int .i64 x13] →
 Calls Tryd.prog 9 #[.pointer p1, .agg #[.int .i64 x12, .int .i64 x13]] w15 (fun e w16 => ∃ (x17 : Int), e = .returned (.int .i64 x17) ∧ w16.heap[w11.heap.size]? = w15.heap[w11.heap.size]? ∧ 
 Br ((x17 : Int) != 0)
 (R (.returned (.bool false)) w16)
 (∃ I18 : Nat → Int → Sl → World → Prop,
 (∃ n19, ([.int .i64 x12, .int .i64 x13] : List Value) = [.int .i64 x12, .int .i64 x13] ∧ I18 n19 (0) ⟨none, 0, 0⟩ w16) ∧
 ∀ (n19 : Nat) (us20 : Nat → Value) (x21 : Int) (s22 : Sl) (w23 : World), I18 n19 x21 s22 w23 →
 Br (decide ((x21 : Int) < ((s6.n : Nat) : Int)))
 (InB s6.a x21 s6.n ∧ ∃ (x25 : Int) (x26 : Int), LoadL w23.drew (padd s6.a ((x21 : Int).toNat * 2)) 0 [.int .i64 x25, .int .i64 x26] ∧
 Br (!(((x25 : Int) == x12) && ((x26 : Int) == x13)))
 (InB s6.a x21 s6.n ∧ ∃ (x27 : Int) (x28 : Int), LoadL w23.drew (padd s6.a ((x21 : Int).toNat * 2)) 0 [.int .i64 x27, .int .i64 x28] ∧
 ∀ w29 : World, w29 = w23.drew.alloc (.cells #[.int .i64 x27, .int .i64 x28] 23) →
 AppPre 16 2 w29 ⟨s22.a, s22.n, s22.c⟩ 1 [.int .i64 x27, .int .i64 x28] ∧ ∀ (s30 : Sl) (w31 : World), AppRes 23 2 w29 ⟨s22.a, s22.n, s22.c⟩ 1 [.int .i64 x27, .int .i64 x28] s30 w31 → w31.heap[w11.heap.size]? = w29.heap[w11.heap.size]? ∧ w31.heap[w23.drew.heap.size]? = w29.heap[w23.drew.heap.size]? ∧ 
 ∃ n24, n24 < n19 ∧ ([.int .i64 x12, .int .i64 x13] : List Value) = [.int .i64 x12, .int .i64 x13] ∧ I18 n24 ((IntKind.wrap .i64 (x21 + 1))) ⟨s30.a, s30.n, s30.c⟩ w31)
 (∃ n24, n24 < n19 ∧ ([.int .i64 x12, .int .i64 x13] : List Value) = [.int .i64 x12, .int .i64 x13] ∧ I18 n24 ((IntKind.wrap .i64 (x21 + 1))) ⟨s22.a, s22.n, s22.c⟩ w23.drew))
 (∀ w32 : World, w32 = w23.alloc (.cells #[.int .i64 x12, .int .i64 x13] 23) →
 AppPre 16 2 w32 ⟨s22.a, s22.n, s22.c⟩ 1 [.int .i64 x12, .int .i64 x13] ∧ ∀ (s33 : Sl) (w34 : World), AppRes 23 2 w32 ⟨s22.a, s22.n, s22.c⟩ 1 [.int .i64 x12, .int .i64 x13] s33 w34 → w34.heap[w11.heap.size]? = w32.heap[w11.heap.size]? ∧ w34.heap[w23.heap.size]? = w32.heap[w23.heap.size]? ∧ 
 Calls Tryd.prog 12 #[.pointer p1] w34 (fun e w35 => ∃ (x36 : Int), e = .returned (.int .i64 x36) ∧ w35.heap[w11.heap.size]? = w34.heap[w11.heap.size]? ∧ w35.heap[w23.heap.size]? = w34.heap[w23.heap.size]? ∧ 
 Br (decide ((((s33.n : Nat) : Int) : Int) > x36))
 ((0 : Int) ≤ 1 ∧ 1 ≤ ((s33.n : Nat) : Int) ∧ Calls Tryd.prog 13 #[.pointer p1] w35 (fun e w37 => ∃ (s38 : Sl), e = .returned (.slice s38.a s38.n s38.c) ∧ w37.heap[w11.heap.size]? = w35.heap[w11.heap.size]? ∧ w37.heap[w23.heap.size]? = w35.heap[w23.heap.size]? ∧ 
 Br ((((s38.n : Nat) : Int) : Int) != (((s33.n - (1 : Int).toNat) : Nat) : Int))
 (R (.returned (.bool false)) w37)
 (∃ I39 : Nat → Int → World → Prop,
 (∃ n40, ([.int .i64 x12, .int .i64 x13] : List Value) = [.int .i64 x12, .int .i64 x13] ∧ ([.int .i64 x12, .int .i64 x13] : List Value) = [.int .i64 x12, .int .i64 x13] ∧ I39 n40 (0) w37) ∧
 ∀ (n40 : Nat) (us41 : Nat → Value) (x42 : Int) (w43 : World), I39 n40 x42 w43 →
 Br (decide ((x42 : Int) < (((s33.n - (1 : Int).toNat) : Nat) : Int)))
 (InB s38.a x42 s38.n ∧ ∃ (x45 : Int) (x46 : Int), LoadL w43.drew (padd s38.a ((x42 : Int).toNat * 2)) 0 [.int .i64 x45, .int .i64 x46] ∧
 InB (slBase s33.a ((1 : Int).toNat) (s33.c) 2) x42 (s33.n - (1 : Int).toNat) ∧ ∃ (x47 : Int) (x48 : Int), LoadL w43.drew (padd (slBase s33.a ((1 : Int).toNat) (s33.c) 2) ((x42 : Int).toNat * 2)) 0 [.int .i64 x47, .int .i64 x48] ∧
 Br (!(((x45 : Int) == x47) && ((x46 : Int) == x48)))
 (R (.returned (.bool false)) w43.drew)
 (∃ n44, n44 < n40 ∧ ([.int .i64 x12, .int .i64 x13] : List Value) = [.int .i64 x12, .int .i64 x13] ∧ ([.int .i64 x12, .int .i64 x13] : List Value) = [.int .i64 x12, .int .i64 x13] ∧ I39 n44 ((IntKind.wrap .i64 (x42 + 1))) w43.drew))
 (∃ n8, n8 < n3 ∧ I2 n8 ((IntKind.wrap .i64 (x5 + 1))) ⟨(slBase s33.a ((1 : Int).toNat) (s33.c) 2), (s33.n - (1 : Int).toNat), (s33.c - (1 : Int).toNat)⟩ w43))))
 (Calls Tryd.prog 13 #[.pointer p1] w35 (fun e w49 => ∃ (s50 : Sl), e = .returned (.slice s50.a s50.n s50.c) ∧ w49.heap[w11.heap.size]? = w35.heap[w11.heap.size]? ∧ w49.heap[w23.heap.size]? = w35.heap[w23.heap.size]? ∧ 
 Br ((((s50.n : Nat) : Int) : Int) != ((s33.n : Nat) : Int))
 (R (.returned (.bool false)) w49)
 (∃ I51 : Nat → Int → World → Prop,
 (∃ n52, ([.int .i64 x12, .int .i64 x13] : List Value) = [.int .i64 x12, .int .i64 x13] ∧ ([.int .i64 x12, .int .i64 x13] : List Value) = [.int .i64 x12, .int .i64 x13] ∧ I51 n52 (0) w49) ∧
 ∀ (n52 : Nat) (us53 : Nat → Value) (x54 : Int) (w55 : World), I51 n52 x54 w55 →
 Br (decide ((x54 : Int) < ((s33.n : Nat) : Int)))
 (InB s50.a x54 s50.n ∧ ∃ (x57 : Int) (x58 : Int), LoadL w55.drew (padd s50.a ((x54 : Int).toNat * 2)) 0 [.int .i64 x57, .int .i64 x58] ∧
 InB s33.a x54 s33.n ∧ ∃ (x59 : Int) (x60 : Int), LoadL w55.drew (padd s33.a ((x54 : Int).toNat * 2)) 0 [.int .i64 x59, .int .i64 x60] ∧
 Br (!(((x57 : Int) == x59) && ((x58 : Int) == x60)))
 (R (.returned (.bool false)) w55.drew)
 (∃ n56, n56 < n52 ∧ ([.int .i64 x12, .int .i64 x13] : List Value) = [.int .i64 x12, .int .i64 x13] ∧ ([.int .i64 x12, .int .i64 x13] : List Value) = [.int .i64 x12, .int .i64 x13] ∧ I51 n56 ((IntKind.wrap .i64 (x54 + 1))) w55.drew))
 (∃ n8, n8 < n3 ∧ I2 n8 ((IntKind.wrap .i64 (x5 + 1))) ⟨s33.a, s33.n, s33.c⟩ w55))))))))))
 (Calls Tryd.prog 12 #[.pointer p1] w7 (fun e w61 => ∃ (x62 : Int), e = .returned (.int .i64 x62) ∧ 
 Br ((x62 : Int) == (if 16 < (if 1 > a1 then 1 else a1) then 16 else (if 1 > a1 then 1 else a1)))
 (Calls Tryd.prog 10 #[] w61 (fun e w63 => ∃ (b64 : Bool), e = .returned (.bool b64) ∧ 
 R (.returned (.bool b64)) w63))
 (R (.returned (.bool false)) w61))))
 (Calls Tryd.prog 12 #[.pointer p1] w7 (fun e w65 => ∃ (x66 : Int), e = .returned (.int .i64 x66) ∧ 
 Br ((x66 : Int) == (if 16 < (if 1 > a1 then 1 else a1) then 16 else (if 1 > a1 then 1 else a1)))
 (Calls Tryd.prog 10 #[] w65 (fun e w67 => ∃ (b68 : Bool), e = .returned (.bool b68) ∧ 
 R (.returned (.bool b68)) w67))
 (R (.returned (.bool false)) w65)))))
theorem law12_TableRow.vc {a0 a1 w} {R : Ending → World → Prop} (h : law12_TableRow.pre a0 a1 w R) : Calls Tryd.prog n_law12_TableRow #[.slice a0.a a0.n a0.c, .int .i64 a1] w R :=
  calls_of_eq (an := ⟨[(24, ⟨[(12, .int .i64)], [], []⟩), (24, ⟨[(12, .int .i64)], [], []⟩), (13, ⟨[(10, .int .i64), (9, .slice)], [], []⟩), (6, ⟨[(7, .int .i64), (6, .slice)], [], []⟩)], [], []⟩) (args := [.slice a0.a a0.n a0.c, .int .i64 a1]) Tryd.noNG Tryd.mixed Tryd.func4 h (by kernel_rfl)


end Go.Proofs.YtbnmglonbhdcbaaDoor
