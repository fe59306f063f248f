import Derived.Test.YtalpkjfpmdpbiaaGreatDoorGS
set_option linter.all false
namespace Go.Proofs.YtalpkjfpmdpbiaaGreatDoor
open Go Go.Vc Go.RowKit Go.Proofs
set_option maxRecDepth 100000
set_option maxHeartbeats 8000000
set_option linter.unusedVariables false
abbrev n_ref12_At : FuncId := 22
abbrev n_ref12_New : FuncId := 68
abbrev n_ref12_Load : FuncId := 39
abbrev n_ref12_Find : FuncId := 49
abbrev n_ref08_New : FuncId := 112
abbrev n_ref09_Load : FuncId := 80
abbrev n_ref12_last : FuncId := 77
abbrev n_ref12_without : FuncId := 78
abbrev n_ref12_save : FuncId := 79
abbrev n_ref09_Of : FuncId := 125
abbrev n_ref08_Get : FuncId := 171
abbrev n_ref09_Read : FuncId := 172
abbrev n_ref08_Lay : FuncId := 215
abbrev n_ref08_Now : FuncId := 216
abbrev n_ref07_Take : FuncId := 217
abbrev n_ref09_num : FuncId := 218
abbrev n_ref07_Of : FuncId := 240
abbrev n_ref07_Sum : FuncId := 248
def ref12_At.pre (a0_0 : Int) (a0_1 : Int) (a0_2 : Int) (a0_3 : Int) (a0_4 : Int) (a0_5 : Sl) (a0_6 : Sl) (a0_7 : Sl) (a1_0 : Int) (a1_1 : Int) (a1_2 : Int) (w : World) (R : Ending → World → Prop) : Prop :=
 ∀ w0 : World, w0 = w.alloc (.cells #[.int .i64 a0_0, .int .i64 a0_1, .int .i64 a0_2, .int .i64 a0_3, .int .i64 a0_4, .slice a0_5.a a0_5.n a0_5.c, .slice a0_6.a a0_6.n a0_6.c, .slice a0_7.a a0_7.n a0_7.c] 30) →
 ∀ w1 : World, w1 = w0.alloc (.cells #[.int .i64 a1_0, .int .i64 a1_1, .int .i64 a1_2] 23) →
 Calls Tryz.prog 50 #[.agg #[.int .i64 a1_0, .int .i64 a1_1, .int .i64 a1_2]] w1.drew (fun e w2 => ∃ (x3 : Int) (x4 : Int), e = .returned (.agg #[.int .i64 x3, .int .i64 x4]) ∧ w2.heap[w.heap.size]? = w1.drew.heap[w.heap.size]? ∧ w2.heap[w0.heap.size]? = w1.drew.heap[w0.heap.size]? ∧
 LoadL w2 (some ⟨w.heap.size, 0, none⟩) 0 [.int .i64 a0_0, .int .i64 a0_1, .int .i64 a0_2, .int .i64 a0_3, .int .i64 a0_4, .slice a0_5.a a0_5.n a0_5.c, .slice a0_6.a a0_6.n a0_6.c, .slice a0_7.a a0_7.n a0_7.c] ∧ Calls Tryz.prog n_ref12_Find #[.agg #[.int .i64 a0_0, .int .i64 a0_1, .int .i64 a0_2, .int .i64 a0_3, .int .i64 a0_4, .slice a0_5.a a0_5.n a0_5.c, .slice a0_6.a a0_6.n a0_6.c, .slice a0_7.a a0_7.n a0_7.c], .agg #[.int .i64 x3, .int .i64 x4]] w2 (fun e w5 => ∃ (x6 : Int), e = .returned (.int .i64 x6) ∧ w5.heap[w.heap.size]? = w2.heap[w.heap.size]? ∧ w5.heap[w0.heap.size]? = w2.heap[w0.heap.size]? ∧
 Br (decide ((x6 : Int) < 0))
 (R (.returned (.int .i64 (-1))) w5)
 (Br (decide ((a1_1 : Int) < 0))
 (R (.returned (.int .i64 1)) w5)
 (Br (decide ((a1_1 : Int) > 31))
 (R (.returned (.int .i64 0)) w5)
 (InB a0_7.a x6 a0_7.n ∧ AndL (nnC (padd a0_7.a ((x6 : Int).toNat * 5))) (∃ (x7 : Int) (x8 : Int) (s9 : Sl), LoadL w5.drew (padd (padd a0_7.a ((x6 : Int).toNat * 5)) 0) 0 [.int .i64 x7, .int .i64 x8, .slice s9.a s9.n s9.c] ∧
 Calls Tryz.prog 51 #[.agg #[.int .i64 x7, .int .i64 x8, .slice s9.a s9.n s9.c], .agg #[.int .i64 a1_0, .int .i64 a1_1, .int .i64 a1_2]] w5.drew (fun e w10 => ∃ (x11 : Int), e = .returned (.int .i64 x11) ∧ w10.heap[w.heap.size]? = w5.drew.heap[w.heap.size]? ∧ w10.heap[w0.heap.size]? = w5.drew.heap[w0.heap.size]? ∧
 LoadL w10 (some ⟨w.heap.size, 7, none⟩) 0 [.slice a0_7.a a0_7.n a0_7.c] ∧ R (.returned (.int .i64 x11)) w10)))))))
theorem ref12_At.vc {a0_0 a0_1 a0_2 a0_3 a0_4 a0_5 a0_6 a0_7 a1_0 a1_1 a1_2 w} {R : Ending → World → Prop} (h : ref12_At.pre a0_0 a0_1 a0_2 a0_3 a0_4 a0_5 a0_6 a0_7 a1_0 a1_1 a1_2 w R) : Calls Tryz.prog n_ref12_At #[.agg #[.int .i64 a0_0, .int .i64 a0_1, .int .i64 a0_2, .int .i64 a0_3, .int .i64 a0_4, .slice a0_5.a a0_5.n a0_5.c, .slice a0_6.a a0_6.n a0_6.c, .slice a0_7.a a0_7.n a0_7.c], .agg #[.int .i64 a1_0, .int .i64 a1_1, .int .i64 a1_2]] w R :=
 calls_of_eq (an := ⟨[], [], []⟩) (args := [.agg #[.int .i64 a0_0, .int .i64 a0_1, .int .i64 a0_2, .int .i64 a0_3, .int .i64 a0_4, .slice a0_5.a a0_5.n a0_5.c, .slice a0_6.a a0_6.n a0_6.c, .slice a0_7.a a0_7.n a0_7.c], .agg #[.int .i64 a1_0, .int .i64 a1_1, .int .i64 a1_2]]) Tryz.noNG Tryz.mixed Tryz.func22 h (by kernel_rfl)
def ref12_New.pre (a0 : Int) (a1 : Int) (a2 : Int) (w : World) (R : Ending → World → Prop) : Prop :=
 ∀ w0 : World, w0 = w.alloc (.cells #[.int .i64 0, .int .i64 0, .int .i64 0, .int .i64 0, .int .i64 0, .slice none 0 0, .slice none 0 0, .slice none 0 0] 30) →
 Calls Tryz.prog n_ref08_New #[.int .i64 a2] w0 (fun e w1 => ∃ (x2 : Int) (x3 : Int) (x4 : Int) (s5 : Sl) (s6 : Sl), e = .returned (.agg #[.int .i64 x2, .int .i64 x3, .int .i64 x4, .slice s5.a s5.n s5.c, .slice s6.a s6.n s6.c]) ∧ w1.heap[w.heap.size]? = w0.heap[w.heap.size]? ∧
 ∀ w7 : World, w7 = w1.setRow w.heap.size #[.int .i64 a0, .int .i64 (if 16 < (if 1 > a1 then 1 else a1) then 16 else (if 1 > a1 then 1 else a1)), .int .i64 x2, .int .i64 x3, .int .i64 x4, .slice s5.a s5.n s5.c, .slice s6.a s6.n s6.c, .slice none 0 0] →
 R (.returned (.agg #[.int .i64 a0, .int .i64 (if 16 < (if 1 > a1 then 1 else a1) then 16 else (if 1 > a1 then 1 else a1)), .int .i64 x2, .int .i64 x3, .int .i64 x4, .slice s5.a s5.n s5.c, .slice s6.a s6.n s6.c, .slice none 0 0])) w7)
theorem ref12_New.vc {a0 a1 a2 w} {R : Ending → World → Prop} (h : ref12_New.pre a0 a1 a2 w R) : Calls Tryz.prog n_ref12_New #[.int .i64 a0, .int .i64 a1, .int .i64 a2] w R :=
 calls_of_eq (an := ⟨[], [], []⟩) (args := [.int .i64 a0, .int .i64 a1, .int .i64 a2]) Tryz.noNG Tryz.mixed Tryz.func68 h (by kernel_rfl)
def ref12_Load.pre (a0_0 : Int) (a0_1 : Int) (a0_2 : Int) (a0_3 : Int) (a0_4 : Int) (a0_5 : Sl) (a0_6 : Sl) (a0_7 : Sl) (a1_0 : Int) (a1_1 : Int) (w : World) (R : Ending → World → Prop) : Prop :=
 ∀ w0 : World, w0 = w.alloc (.cells #[.int .i64 a0_0, .int .i64 a0_1, .int .i64 a0_2, .int .i64 a0_3, .int .i64 a0_4, .slice a0_5.a a0_5.n a0_5.c, .slice a0_6.a a0_6.n a0_6.c, .slice a0_7.a a0_7.n a0_7.c] 30) →
 ∀ w1 : World, w1 = w0.alloc (.cells #[.int .i64 a1_0, .int .i64 a1_1] 89) →
 ∀ w2 : World, w2 = w1.alloc (.cells #[.int .i64 0, .int .i64 0, .int .i64 0, .int .i64 0, .int .i64 0, .slice none 0 0, .slice none 0 0, .slice none 0 0] 30) →
 Calls Tryz.prog 76 #[.agg #[.int .i64 a1_0, .int .i64 a1_1]] w2 (fun e w3 => ∃ (x4 : Int), e = .returned (.int .i64 x4) ∧ w3.heap[w.heap.size]? = w2.heap[w.heap.size]? ∧ w3.heap[w0.heap.size]? = w2.heap[w0.heap.size]? ∧ w3.heap[w1.heap.size]? = w2.heap[w1.heap.size]? ∧
 Br ((x4 : Int) == 0)
 (∀ w5 : World, w5 = w3.setRow w1.heap.size #[.int .i64 a0_0, .int .i64 a0_1, .int .i64 a0_2, .int .i64 a0_3, .int .i64 a0_4, .slice a0_5.a a0_5.n a0_5.c, .slice a0_6.a a0_6.n a0_6.c, .slice a0_7.a a0_7.n a0_7.c] →
 R (.returned (.tuple #[.agg #[.int .i64 a0_0, .int .i64 a0_1, .int .i64 a0_2, .int .i64 a0_3, .int .i64 a0_4, .slice a0_5.a a0_5.n a0_5.c, .slice a0_6.a a0_6.n a0_6.c, .slice a0_7.a a0_7.n a0_7.c], .int .i64 5])) w5)
 (Calls Tryz.prog n_ref12_Find #[.agg #[.int .i64 a0_0, .int .i64 a0_1, .int .i64 a0_2, .int .i64 a0_3, .int .i64 a0_4, .slice a0_5.a a0_5.n a0_5.c, .slice a0_6.a a0_6.n a0_6.c, .slice a0_7.a a0_7.n a0_7.c], .agg #[.int .i64 a1_0, .int .i64 a1_1]] w3 (fun e w6 => ∃ (x7 : Int), e = .returned (.int .i64 x7) ∧ w6.heap[w.heap.size]? = w3.heap[w.heap.size]? ∧ w6.heap[w0.heap.size]? = w3.heap[w0.heap.size]? ∧ w6.heap[w1.heap.size]? = w3.heap[w1.heap.size]? ∧
 Br (decide ((x7 : Int) ≥ 0))
 (InB a0_7.a x7 a0_7.n ∧ ∃ (x8 : Int) (x9 : Int) (s10 : Sl) (b11 : Bool) (x12 : Int), LoadL w6 (padd a0_7.a ((x7 : Int).toNat * 5)) 0 [.int .i64 x8, .int .i64 x9, .slice s10.a s10.n s10.c, .bool b11, .int .i64 x12] ∧
 ∀ w13 : World, w13 = w6.alloc (.cells #[.int .i64 0, .int .i64 0, .slice none 0 0, .bool false, .int .i64 0] 110) →
 ∀ w14 : World, w14 = w13.setRow w6.heap.size #[.int .i64 x8, .int .i64 x9, .slice s10.a s10.n s10.c, .bool b11, .int .i64 x12] →
 Calls Tryz.prog n_ref12_without #[.agg #[.int .i64 a0_0, .int .i64 a0_1, .int .i64 a0_2, .int .i64 a0_3, .int .i64 a0_4, .slice a0_5.a a0_5.n a0_5.c, .slice a0_6.a a0_6.n a0_6.c, .slice a0_7.a a0_7.n a0_7.c], .int .i64 x7] w14.drew (fun e w15 => ∃ (x16 : Int) (x17 : Int) (x18 : Int) (x19 : Int) (x20 : Int) (s21 : Sl) (s22 : Sl) (s23 : Sl), e = .returned (.agg #[.int .i64 x16, .int .i64 x17, .int .i64 x18, .int .i64 x19, .int .i64 x20, .slice s21.a s21.n s21.c, .slice s22.a s22.n s22.c, .slice s23.a s23.n s23.c]) ∧ w15.heap[w.heap.size]? = w14.drew.heap[w.heap.size]? ∧ w15.heap[w0.heap.size]? = w14.drew.heap[w0.heap.size]? ∧ w15.heap[w1.heap.size]? = w14.drew.heap[w1.heap.size]? ∧ w15.heap[w6.heap.size]? = w14.drew.heap[w6.heap.size]? ∧
 LoadL w15 (some ⟨w6.heap.size, 0, none⟩) 0 [.int .i64 x8, .int .i64 x9, .slice s10.a s10.n s10.c, .bool b11, .int .i64 x12] ∧ Calls Tryz.prog n_ref12_last #[.agg #[.int .i64 x16, .int .i64 x17, .int .i64 x18, .int .i64 x19, .int .i64 x20, .slice s21.a s21.n s21.c, .slice s22.a s22.n s22.c, .slice s23.a s23.n s23.c], .agg #[.int .i64 x8, .int .i64 x9, .slice s10.a s10.n s10.c, .bool b11, .int .i64 x12]] w15 (fun e w24 => ∃ (x25 : Int) (x26 : Int) (x27 : Int) (x28 : Int) (x29 : Int) (s30 : Sl) (s31 : Sl) (s32 : Sl), e = .returned (.agg #[.int .i64 x25, .int .i64 x26, .int .i64 x27, .int .i64 x28, .int .i64 x29, .slice s30.a s30.n s30.c, .slice s31.a s31.n s31.c, .slice s32.a s32.n s32.c]) ∧ w24.heap[w.heap.size]? = w15.heap[w.heap.size]? ∧ w24.heap[w0.heap.size]? = w15.heap[w0.heap.size]? ∧ w24.heap[w1.heap.size]? = w15.heap[w1.heap.size]? ∧ w24.heap[w6.heap.size]? = w15.heap[w6.heap.size]? ∧
 ∀ w33 : World, w33 = w24.setRow w1.heap.size #[.int .i64 x25, .int .i64 x26, .int .i64 x27, .int .i64 x28, .int .i64 x29, .slice s30.a s30.n s30.c, .slice s31.a s31.n s31.c, .slice s32.a s32.n s32.c] →
 R (.returned (.tuple #[.agg #[.int .i64 x25, .int .i64 x26, .int .i64 x27, .int .i64 x28, .int .i64 x29, .slice s30.a s30.n s30.c, .slice s31.a s31.n s31.c, .slice s32.a s32.n s32.c], .int .i64 0])) w33)))
 (Br (decide ((((a0_7.n : Nat) : Int) : Int) ≥ a0_1))
 (∃ I34 : Nat → Int → Int → World → Prop,
 (∃ n35, ([.int .i64 a0_0, .int .i64 a0_1, .int .i64 a0_2, .int .i64 a0_3, .int .i64 a0_4, .slice a0_5.a a0_5.n a0_5.c, .slice a0_6.a a0_6.n a0_6.c, .slice a0_7.a a0_7.n a0_7.c] : List Value) = [.int .i64 a0_0, .int .i64 a0_1, .int .i64 a0_2, .int .i64 a0_3, .int .i64 a0_4, .slice a0_5.a a0_5.n a0_5.c, .slice a0_6.a a0_6.n a0_6.c, .slice a0_7.a a0_7.n a0_7.c] ∧ ([.int .i64 a1_0, .int .i64 a1_1] : List Value) = [.int .i64 a1_0, .int .i64 a1_1] ∧ ([.int .i64 0, .int .i64 0, .int .i64 0, .int .i64 0, .int .i64 0, .slice none 0 0, .slice none 0 0, .slice none 0 0] : List Value) = [.int .i64 0, .int .i64 0, .int .i64 0, .int .i64 0, .int .i64 0, .slice none 0 0, .slice none 0 0, .slice none 0 0] ∧ I34 n35 ((IntKind.wrap .i64 (((a0_7.n : Nat) : Int) - 1))) ((-1)) w6) ∧
 ∀ (n35 : Nat) (us36 : Nat → Value) (x37 : Int) (x38 : Int) (w39 : World), I34 n35 x37 x38 w39 →
 Br (decide ((x37 : Int) ≥ 0))
 (InB a0_7.a x37 a0_7.n ∧ AndL (nnC (padd a0_7.a ((x37 : Int).toNat * 5))) (∃ (x41 : Int), ld w39 (padd (padd a0_7.a ((x37 : Int).toNat * 5)) 4) = some (.int .i64 x41) ∧
 Br ((x41 : Int) == 0)
 (∃ n40, n40 < n35 ∧ ([.int .i64 a0_0, .int .i64 a0_1, .int .i64 a0_2, .int .i64 a0_3, .int .i64 a0_4, .slice a0_5.a a0_5.n a0_5.c, .slice a0_6.a a0_6.n a0_6.c, .slice a0_7.a a0_7.n a0_7.c] : List Value) = [.int .i64 a0_0, .int .i64 a0_1, .int .i64 a0_2, .int .i64 a0_3, .int .i64 a0_4, .slice a0_5.a a0_5.n a0_5.c, .slice a0_6.a a0_6.n a0_6.c, .slice a0_7.a a0_7.n a0_7.c] ∧ ([.int .i64 a1_0, .int .i64 a1_1] : List Value) = [.int .i64 a1_0, .int .i64 a1_1] ∧ ([.int .i64 0, .int .i64 0, .int .i64 0, .int .i64 0, .int .i64 0, .slice none 0 0, .slice none 0 0, .slice none 0 0] : List Value) = [.int .i64 0, .int .i64 0, .int .i64 0, .int .i64 0, .int .i64 0, .slice none 0 0, .slice none 0 0, .slice none 0 0] ∧ I34 n40 ((IntKind.wrap .i64 (x37 - 1))) (x37) w39)
 (∃ n40, n40 < n35 ∧ ([.int .i64 a0_0, .int .i64 a0_1, .int .i64 a0_2, .int .i64 a0_3, .int .i64 a0_4, .slice a0_5.a a0_5.n a0_5.c, .slice a0_6.a a0_6.n a0_6.c, .slice a0_7.a a0_7.n a0_7.c] : List Value) = [.int .i64 a0_0, .int .i64 a0_1, .int .i64 a0_2, .int .i64 a0_3, .int .i64 a0_4, .slice a0_5.a a0_5.n a0_5.c, .slice a0_6.a a0_6.n a0_6.c, .slice a0_7.a a0_7.n a0_7.c] ∧ ([.int .i64 a1_0, .int .i64 a1_1] : List Value) = [.int .i64 a1_0, .int .i64 a1_1] ∧ ([.int .i64 0, .int .i64 0, .int .i64 0, .int .i64 0, .int .i64 0, .slice none 0 0, .slice none 0 0, .slice none 0 0] : List Value) = [.int .i64 0, .int .i64 0, .int .i64 0, .int .i64 0, .int .i64 0, .slice none 0 0, .slice none 0 0, .slice none 0 0] ∧ I34 n40 ((IntKind.wrap .i64 (x37 - 1))) (x38) w39)))
 (Br (decide ((x38 : Int) < 0))
 (∀ w42 : World, w42 = w39.setRow w1.heap.size #[.int .i64 a0_0, .int .i64 a0_1, .int .i64 a0_2, .int .i64 a0_3, .int .i64 a0_4, .slice a0_5.a a0_5.n a0_5.c, .slice a0_6.a a0_6.n a0_6.c, .slice a0_7.a a0_7.n a0_7.c] →
 R (.returned (.tuple #[.agg #[.int .i64 a0_0, .int .i64 a0_1, .int .i64 a0_2, .int .i64 a0_3, .int .i64 a0_4, .slice a0_5.a a0_5.n a0_5.c, .slice a0_6.a a0_6.n a0_6.c, .slice a0_7.a a0_7.n a0_7.c], .int .i64 8])) w42)
 (Calls Tryz.prog n_ref12_save #[.agg #[.int .i64 a0_0, .int .i64 a0_1, .int .i64 a0_2, .int .i64 a0_3, .int .i64 a0_4, .slice a0_5.a a0_5.n a0_5.c, .slice a0_6.a a0_6.n a0_6.c, .slice a0_7.a a0_7.n a0_7.c], .int .i64 x38] w39 (fun e w43 => ∃ (x44 : Int) (x45 : Int) (x46 : Int) (x47 : Int) (x48 : Int) (s49 : Sl) (s50 : Sl) (s51 : Sl) (x52 : Int), e = .returned (.tuple #[.agg #[.int .i64 x44, .int .i64 x45, .int .i64 x46, .int .i64 x47, .int .i64 x48, .slice s49.a s49.n s49.c, .slice s50.a s50.n s50.c, .slice s51.a s51.n s51.c], .int .i64 x52]) ∧ w43.heap[w.heap.size]? = w39.heap[w.heap.size]? ∧ w43.heap[w0.heap.size]? = w39.heap[w0.heap.size]? ∧ w43.heap[w1.heap.size]? = w39.heap[w1.heap.size]? ∧
 ∀ w53 : World, w53 = w43.alloc (.cells #[.int .i64 0, .int .i64 0, .int .i64 0, .int .i64 0, .int .i64 0, .slice none 0 0, .slice none 0 0, .slice none 0 0] 30) →
 ∀ w54 : World, w54 = w53.setRow w43.heap.size #[.int .i64 x44, .int .i64 x45, .int .i64 x46, .int .i64 x47, .int .i64 x48, .slice s49.a s49.n s49.c, .slice s50.a s50.n s50.c, .slice s51.a s51.n s51.c] →
 Br ((x52 : Int) != 0)
 (∀ w55 : World, w55 = w54.setRow w1.heap.size #[.int .i64 x44, .int .i64 x45, .int .i64 x46, .int .i64 x47, .int .i64 x48, .slice s49.a s49.n s49.c, .slice s50.a s50.n s50.c, .slice s51.a s51.n s51.c] →
 R (.returned (.tuple #[.agg #[.int .i64 x44, .int .i64 x45, .int .i64 x46, .int .i64 x47, .int .i64 x48, .slice s49.a s49.n s49.c, .slice s50.a s50.n s50.c, .slice s51.a s51.n s51.c], .int .i64 x52])) w55)
 (Calls Tryz.prog n_ref12_without #[.agg #[.int .i64 x44, .int .i64 x45, .int .i64 x46, .int .i64 x47, .int .i64 x48, .slice s49.a s49.n s49.c, .slice s50.a s50.n s50.c, .slice s51.a s51.n s51.c], .int .i64 x38] w54 (fun e w56 => ∃ (x57 : Int) (x58 : Int) (x59 : Int) (x60 : Int) (x61 : Int) (s62 : Sl) (s63 : Sl) (s64 : Sl), e = .returned (.agg #[.int .i64 x57, .int .i64 x58, .int .i64 x59, .int .i64 x60, .int .i64 x61, .slice s62.a s62.n s62.c, .slice s63.a s63.n s63.c, .slice s64.a s64.n s64.c]) ∧ w56.heap[w.heap.size]? = w54.heap[w.heap.size]? ∧ w56.heap[w0.heap.size]? = w54.heap[w0.heap.size]? ∧ w56.heap[w1.heap.size]? = w54.heap[w1.heap.size]? ∧ w56.heap[w43.heap.size]? = w54.heap[w43.heap.size]? ∧
 ∀ w65 : World, w65 = w56.setRow w.heap.size #[.int .i64 x57, .int .i64 x58, .int .i64 x59, .int .i64 x60, .int .i64 x61, .slice s62.a s62.n s62.c, .slice s63.a s63.n s63.c, .slice s64.a s64.n s64.c] →
 Calls Tryz.prog n_ref09_Load #[.agg #[.int .i64 x59, .int .i64 x60, .int .i64 x61, .slice s62.a s62.n s62.c, .slice s63.a s63.n s63.c], .int .i64 x4] w65 (fun e w66 => ∃ (s67 : Sl) (x68 : Int) (b69 : Bool), e = .returned (.tuple #[.slice s67.a s67.n s67.c, .int .i64 x68, .bool b69]) ∧ w66.heap[w.heap.size]? = w65.heap[w.heap.size]? ∧ w66.heap[w0.heap.size]? = w65.heap[w0.heap.size]? ∧ w66.heap[w1.heap.size]? = w65.heap[w1.heap.size]? ∧ w66.heap[w43.heap.size]? = w65.heap[w43.heap.size]? ∧
 Calls Tryz.prog 81 #[.agg #[.int .i64 a1_0, .int .i64 a1_1], .slice s67.a s67.n s67.c] w66 (fun e w70 => ∃ (x71 : Int) (x72 : Int) (s73 : Sl) (x74 : Int), e = .returned (.tuple #[.agg #[.int .i64 x71, .int .i64 x72, .slice s73.a s73.n s73.c], .int .i64 x74]) ∧ w70.heap[w.heap.size]? = w66.heap[w.heap.size]? ∧ w70.heap[w0.heap.size]? = w66.heap[w0.heap.size]? ∧ w70.heap[w1.heap.size]? = w66.heap[w1.heap.size]? ∧ w70.heap[w43.heap.size]? = w66.heap[w43.heap.size]? ∧
 ∀ w75 : World, w75 = w70.alloc (.cells #[.int .i64 0, .int .i64 0, .slice none 0 0] 108) →
 ∀ w76 : World, w76 = w75.setRow w70.heap.size #[.int .i64 x71, .int .i64 x72, .slice s73.a s73.n s73.c] →
 Br ((x74 : Int) != 0)
 (Calls Tryz.prog 82 #[.int .i64 x57, .agg #[.int .i64 a1_0, .int .i64 a1_1]] w76 (fun e w77 => ∃ (x78 : Int) (x79 : Int) (s80 : Sl), e = .returned (.agg #[.int .i64 x78, .int .i64 x79, .slice s80.a s80.n s80.c]) ∧ w77.heap[w.heap.size]? = w76.heap[w.heap.size]? ∧ w77.heap[w0.heap.size]? = w76.heap[w0.heap.size]? ∧ w77.heap[w1.heap.size]? = w76.heap[w1.heap.size]? ∧ w77.heap[w43.heap.size]? = w76.heap[w43.heap.size]? ∧ w77.heap[w70.heap.size]? = w76.heap[w70.heap.size]? ∧
 ∀ w81 : World, w81 = w77.setRow w70.heap.size #[.int .i64 x78, .int .i64 x79, .slice s80.a s80.n s80.c] →
 Calls Tryz.prog n_ref12_last #[.agg #[.int .i64 x57, .int .i64 x58, .int .i64 x59, .int .i64 x60, .int .i64 x61, .slice s62.a s62.n s62.c, .slice s63.a s63.n s63.c, .slice s64.a s64.n s64.c], .agg #[.int .i64 x78, .int .i64 x79, .slice s80.a s80.n s80.c, .bool false, .int .i64 0]] w81 (fun e w82 => ∃ (x83 : Int) (x84 : Int) (x85 : Int) (x86 : Int) (x87 : Int) (s88 : Sl) (s89 : Sl) (s90 : Sl), e = .returned (.agg #[.int .i64 x83, .int .i64 x84, .int .i64 x85, .int .i64 x86, .int .i64 x87, .slice s88.a s88.n s88.c, .slice s89.a s89.n s89.c, .slice s90.a s90.n s90.c]) ∧ w82.heap[w.heap.size]? = w81.heap[w.heap.size]? ∧ w82.heap[w0.heap.size]? = w81.heap[w0.heap.size]? ∧ w82.heap[w1.heap.size]? = w81.heap[w1.heap.size]? ∧ w82.heap[w43.heap.size]? = w81.heap[w43.heap.size]? ∧ w82.heap[w70.heap.size]? = w81.heap[w70.heap.size]? ∧
 ∀ w91 : World, w91 = w82.setRow w1.heap.size #[.int .i64 x83, .int .i64 x84, .int .i64 x85, .int .i64 x86, .int .i64 x87, .slice s88.a s88.n s88.c, .slice s89.a s89.n s89.c, .slice s90.a s90.n s90.c] →
 R (.returned (.tuple #[.agg #[.int .i64 x83, .int .i64 x84, .int .i64 x85, .int .i64 x86, .int .i64 x87, .slice s88.a s88.n s88.c, .slice s89.a s89.n s89.c, .slice s90.a s90.n s90.c], .int .i64 0])) w91)))
 (Calls Tryz.prog n_ref12_last #[.agg #[.int .i64 x57, .int .i64 x58, .int .i64 x59, .int .i64 x60, .int .i64 x61, .slice s62.a s62.n s62.c, .slice s63.a s63.n s63.c, .slice s64.a s64.n s64.c], .agg #[.int .i64 x71, .int .i64 x72, .slice s73.a s73.n s73.c, .bool false, .int .i64 0]] w76 (fun e w92 => ∃ (x93 : Int) (x94 : Int) (x95 : Int) (x96 : Int) (x97 : Int) (s98 : Sl) (s99 : Sl) (s100 : Sl), e = .returned (.agg #[.int .i64 x93, .int .i64 x94, .int .i64 x95, .int .i64 x96, .int .i64 x97, .slice s98.a s98.n s98.c, .slice s99.a s99.n s99.c, .slice s100.a s100.n s100.c]) ∧ w92.heap[w.heap.size]? = w76.heap[w.heap.size]? ∧ w92.heap[w0.heap.size]? = w76.heap[w0.heap.size]? ∧ w92.heap[w1.heap.size]? = w76.heap[w1.heap.size]? ∧ w92.heap[w43.heap.size]? = w76.heap[w43.heap.size]? ∧ w92.heap[w70.heap.size]? = w76.heap[w70.heap.size]? ∧
 ∀ w101 : World, w101 = w92.setRow w1.heap.size #[.int .i64 x93, .int .i64 x94, .int .i64 x95, .int .i64 x96, .int .i64 x97, .slice s98.a s98.n s98.c, .slice s99.a s99.n s99.c, .slice s100.a s100.n s100.c] →
 R (.returned (.tuple #[.agg #[.int .i64 x93, .int .i64 x94, .int .i64 x95, .int .i64 x96, .int .i64 x97, .slice s98.a s98.n s98.c, .slice s99.a s99.n s99.c, .slice s100.a s100.n s100.c], .int .i64 0])) w101))))))))))
 (Calls Tryz.prog n_ref09_Load #[.agg #[.int .i64 a0_2, .int .i64 a0_3, .int .i64 a0_4, .slice a0_5.a a0_5.n a0_5.c, .slice a0_6.a a0_6.n a0_6.c], .int .i64 x4] w6 (fun e w102 => ∃ (s103 : Sl) (x104 : Int) (b105 : Bool), e = .returned (.tuple #[.slice s103.a s103.n s103.c, .int .i64 x104, .bool b105]) ∧ w102.heap[w.heap.size]? = w6.heap[w.heap.size]? ∧ w102.heap[w0.heap.size]? = w6.heap[w0.heap.size]? ∧ w102.heap[w1.heap.size]? = w6.heap[w1.heap.size]? ∧
 Calls Tryz.prog 81 #[.agg #[.int .i64 a1_0, .int .i64 a1_1], .slice s103.a s103.n s103.c] w102 (fun e w106 => ∃ (x107 : Int) (x108 : Int) (s109 : Sl) (x110 : Int), e = .returned (.tuple #[.agg #[.int .i64 x107, .int .i64 x108, .slice s109.a s109.n s109.c], .int .i64 x110]) ∧ w106.heap[w.heap.size]? = w102.heap[w.heap.size]? ∧ w106.heap[w0.heap.size]? = w102.heap[w0.heap.size]? ∧ w106.heap[w1.heap.size]? = w102.heap[w1.heap.size]? ∧
 ∀ w111 : World, w111 = w106.alloc (.cells #[.int .i64 0, .int .i64 0, .slice none 0 0] 108) →
 ∀ w112 : World, w112 = w111.setRow w106.heap.size #[.int .i64 x107, .int .i64 x108, .slice s109.a s109.n s109.c] →
 Br ((x110 : Int) != 0)
 (Calls Tryz.prog 82 #[.int .i64 a0_0, .agg #[.int .i64 a1_0, .int .i64 a1_1]] w112 (fun e w113 => ∃ (x114 : Int) (x115 : Int) (s116 : Sl), e = .returned (.agg #[.int .i64 x114, .int .i64 x115, .slice s116.a s116.n s116.c]) ∧ w113.heap[w.heap.size]? = w112.heap[w.heap.size]? ∧ w113.heap[w0.heap.size]? = w112.heap[w0.heap.size]? ∧ w113.heap[w1.heap.size]? = w112.heap[w1.heap.size]? ∧ w113.heap[w106.heap.size]? = w112.heap[w106.heap.size]? ∧
 ∀ w117 : World, w117 = w113.setRow w106.heap.size #[.int .i64 x114, .int .i64 x115, .slice s116.a s116.n s116.c] →
 Calls Tryz.prog n_ref12_last #[.agg #[.int .i64 a0_0, .int .i64 a0_1, .int .i64 a0_2, .int .i64 a0_3, .int .i64 a0_4, .slice a0_5.a a0_5.n a0_5.c, .slice a0_6.a a0_6.n a0_6.c, .slice a0_7.a a0_7.n a0_7.c], .agg #[.int .i64 x114, .int .i64 x115, .slice s116.a s116.n s116.c, .bool false, .int .i64 0]] w117 (fun e w118 => ∃ (x119 : Int) (x120 : Int) (x121 : Int) (x122 : Int) (x123 : Int) (s124 : Sl) (s125 : Sl) (s126 : Sl), e = .returned (.agg #[.int .i64 x119, .int .i64 x120, .int .i64 x121, .int .i64 x122, .int .i64 x123, .slice s124.a s124.n s124.c, .slice s125.a s125.n s125.c, .slice s126.a s126.n s126.c]) ∧ w118.heap[w.heap.size]? = w117.heap[w.heap.size]? ∧ w118.heap[w0.heap.size]? = w117.heap[w0.heap.size]? ∧ w118.heap[w1.heap.size]? = w117.heap[w1.heap.size]? ∧ w118.heap[w106.heap.size]? = w117.heap[w106.heap.size]? ∧
 ∀ w127 : World, w127 = w118.setRow w1.heap.size #[.int .i64 x119, .int .i64 x120, .int .i64 x121, .int .i64 x122, .int .i64 x123, .slice s124.a s124.n s124.c, .slice s125.a s125.n s125.c, .slice s126.a s126.n s126.c] →
 R (.returned (.tuple #[.agg #[.int .i64 x119, .int .i64 x120, .int .i64 x121, .int .i64 x122, .int .i64 x123, .slice s124.a s124.n s124.c, .slice s125.a s125.n s125.c, .slice s126.a s126.n s126.c], .int .i64 0])) w127)))
 (Calls Tryz.prog n_ref12_last #[.agg #[.int .i64 a0_0, .int .i64 a0_1, .int .i64 a0_2, .int .i64 a0_3, .int .i64 a0_4, .slice a0_5.a a0_5.n a0_5.c, .slice a0_6.a a0_6.n a0_6.c, .slice a0_7.a a0_7.n a0_7.c], .agg #[.int .i64 x107, .int .i64 x108, .slice s109.a s109.n s109.c, .bool false, .int .i64 0]] w112 (fun e w128 => ∃ (x129 : Int) (x130 : Int) (x131 : Int) (x132 : Int) (x133 : Int) (s134 : Sl) (s135 : Sl) (s136 : Sl), e = .returned (.agg #[.int .i64 x129, .int .i64 x130, .int .i64 x131, .int .i64 x132, .int .i64 x133, .slice s134.a s134.n s134.c, .slice s135.a s135.n s135.c, .slice s136.a s136.n s136.c]) ∧ w128.heap[w.heap.size]? = w112.heap[w.heap.size]? ∧ w128.heap[w0.heap.size]? = w112.heap[w0.heap.size]? ∧ w128.heap[w1.heap.size]? = w112.heap[w1.heap.size]? ∧ w128.heap[w106.heap.size]? = w112.heap[w106.heap.size]? ∧
 ∀ w137 : World, w137 = w128.setRow w1.heap.size #[.int .i64 x129, .int .i64 x130, .int .i64 x131, .int .i64 x132, .int .i64 x133, .slice s134.a s134.n s134.c, .slice s135.a s135.n s135.c, .slice s136.a s136.n s136.c] →
 R (.returned (.tuple #[.agg #[.int .i64 x129, .int .i64 x130, .int .i64 x131, .int .i64 x132, .int .i64 x133, .slice s134.a s134.n s134.c, .slice s135.a s135.n s135.c, .slice s136.a s136.n s136.c], .int .i64 0])) w137)))))))))
theorem ref12_Load.vc {a0_0 a0_1 a0_2 a0_3 a0_4 a0_5 a0_6 a0_7 a1_0 a1_1 w} {R : Ending → World → Prop} (h : ref12_Load.pre a0_0 a0_1 a0_2 a0_3 a0_4 a0_5 a0_6 a0_7 a1_0 a1_1 w R) : Calls Tryz.prog n_ref12_Load #[.agg #[.int .i64 a0_0, .int .i64 a0_1, .int .i64 a0_2, .int .i64 a0_3, .int .i64 a0_4, .slice a0_5.a a0_5.n a0_5.c, .slice a0_6.a a0_6.n a0_6.c, .slice a0_7.a a0_7.n a0_7.c], .agg #[.int .i64 a1_0, .int .i64 a1_1]] w R :=
 calls_of_eq (an := ⟨[(11, ⟨[(10, .int .i64), (9, .int .i64)], [], []⟩)], [], []⟩) (args := [.agg #[.int .i64 a0_0, .int .i64 a0_1, .int .i64 a0_2, .int .i64 a0_3, .int .i64 a0_4, .slice a0_5.a a0_5.n a0_5.c, .slice a0_6.a a0_6.n a0_6.c, .slice a0_7.a a0_7.n a0_7.c], .agg #[.int .i64 a1_0, .int .i64 a1_1]]) Tryz.noNG Tryz.mixed Tryz.func39 h (by kernel_rfl)
def ref12_Find.pre (a0_0 : Int) (a0_1 : Int) (a0_2 : Int) (a0_3 : Int) (a0_4 : Int) (a0_5 : Sl) (a0_6 : Sl) (a0_7 : Sl) (a1_0 : Int) (a1_1 : Int) (w : World) (R : Ending → World → Prop) : Prop :=
 ∀ w0 : World, w0 = w.alloc (.cells #[.int .i64 a0_0, .int .i64 a0_1, .int .i64 a0_2, .int .i64 a0_3, .int .i64 a0_4, .slice a0_5.a a0_5.n a0_5.c, .slice a0_6.a a0_6.n a0_6.c, .slice a0_7.a a0_7.n a0_7.c] 30) →
 ∀ w1 : World, w1 = w0.alloc (.cells #[.int .i64 a1_0, .int .i64 a1_1] 89) →
 ∃ I2 : Nat → Int → World → Prop,
 (∃ n3, ([.int .i64 a0_0, .int .i64 a0_1, .int .i64 a0_2, .int .i64 a0_3, .int .i64 a0_4, .slice a0_5.a a0_5.n a0_5.c, .slice a0_6.a a0_6.n a0_6.c, .slice a0_7.a a0_7.n a0_7.c] : List Value) = [.int .i64 a0_0, .int .i64 a0_1, .int .i64 a0_2, .int .i64 a0_3, .int .i64 a0_4, .slice a0_5.a a0_5.n a0_5.c, .slice a0_6.a a0_6.n a0_6.c, .slice a0_7.a a0_7.n a0_7.c] ∧ ([.int .i64 a1_0, .int .i64 a1_1] : List Value) = [.int .i64 a1_0, .int .i64 a1_1] ∧ I2 n3 (0) w1) ∧
 ∀ (n3 : Nat) (us4 : Nat → Value) (x5 : Int) (w6 : World), I2 n3 x5 w6 →
 Br (decide ((x5 : Int) < ((a0_7.n : Nat) : Int)))
 (InB a0_7.a x5 a0_7.n ∧ AndL (nnC (padd a0_7.a ((x5 : Int).toNat * 5))) (AndL (nnC (padd (padd a0_7.a ((x5 : Int).toNat * 5)) 0)) (∃ (x8 : Int) (x9 : Int), LoadL w6.drew (padd (padd (padd a0_7.a ((x5 : Int).toNat * 5)) 0) 0) 0 [.int .i64 x8, .int .i64 x9] ∧
 Br (((x8 : Int) == a1_0) && ((x9 : Int) == a1_1))
 (R (.returned (.int .i64 x5)) w6.drew)
 (∃ n7, n7 < n3 ∧ ([.int .i64 a0_0, .int .i64 a0_1, .int .i64 a0_2, .int .i64 a0_3, .int .i64 a0_4, .slice a0_5.a a0_5.n a0_5.c, .slice a0_6.a a0_6.n a0_6.c, .slice a0_7.a a0_7.n a0_7.c] : List Value) = [.int .i64 a0_0, .int .i64 a0_1, .int .i64 a0_2, .int .i64 a0_3, .int .i64 a0_4, .slice a0_5.a a0_5.n a0_5.c, .slice a0_6.a a0_6.n a0_6.c, .slice a0_7.a a0_7.n a0_7.c] ∧ ([.int .i64 a1_0, .int .i64 a1_1] : List Value) = [.int .i64 a1_0, .int .i64 a1_1] ∧ I2 n7 ((IntKind.wrap .i64 (x5 + 1))) w6.drew))))
 (R (.returned (.int .i64 (-1))) w6)
theorem ref12_Find.vc {a0_0 a0_1 a0_2 a0_3 a0_4 a0_5 a0_6 a0_7 a1_0 a1_1 w} {R : Ending → World → Prop} (h : ref12_Find.pre a0_0 a0_1 a0_2 a0_3 a0_4 a0_5 a0_6 a0_7 a1_0 a1_1 w R) : Calls Tryz.prog n_ref12_Find #[.agg #[.int .i64 a0_0, .int .i64 a0_1, .int .i64 a0_2, .int .i64 a0_3, .int .i64 a0_4, .slice a0_5.a a0_5.n a0_5.c, .slice a0_6.a a0_6.n a0_6.c, .slice a0_7.a a0_7.n a0_7.c], .agg #[.int .i64 a1_0, .int .i64 a1_1]] w R :=
 calls_of_eq (an := ⟨[(2, ⟨[(5, .int .i64)], [], []⟩)], [], []⟩) (args := [.agg #[.int .i64 a0_0, .int .i64 a0_1, .int .i64 a0_2, .int .i64 a0_3, .int .i64 a0_4, .slice a0_5.a a0_5.n a0_5.c, .slice a0_6.a a0_6.n a0_6.c, .slice a0_7.a a0_7.n a0_7.c], .agg #[.int .i64 a1_0, .int .i64 a1_1]]) Tryz.noNG Tryz.mixed Tryz.func49 h (by kernel_rfl)
def ref08_New.pre (a0 : Int) (w : World) (R : Ending → World → Prop) : Prop :=
 ∀ w0 : World, w0 = w.alloc (.cells #[.int .i64 0, .int .i64 0, .int .i64 0, .slice none 0 0, .slice none 0 0] 27) →
 ∀ w1 : World, w1 = w0.setRow w.heap.size #[.int .i64 (if 1048576 < (if 0 > a0 then 0 else a0) then 1048576 else (if 0 > a0 then 0 else a0)), .int .i64 0, .int .i64 0, .slice none 0 0, .slice none 0 0] →
 R (.returned (.agg #[.int .i64 (if 1048576 < (if 0 > a0 then 0 else a0) then 1048576 else (if 0 > a0 then 0 else a0)), .int .i64 0, .int .i64 0, .slice none 0 0, .slice none 0 0])) w1
theorem ref08_New.vc {a0 w} {R : Ending → World → Prop} (h : ref08_New.pre a0 w R) : Calls Tryz.prog n_ref08_New #[.int .i64 a0] w R :=
 calls_of_eq (an := ⟨[], [], []⟩) (args := [.int .i64 a0]) Tryz.noNG Tryz.mixed Tryz.func112 h (by kernel_rfl)
def ref09_Load.pre (a0_0 : Int) (a0_1 : Int) (a0_2 : Int) (a0_3 : Sl) (a0_4 : Sl) (a1 : Int) (w : World) (R : Ending → World → Prop) : Prop :=
 ∀ w0 : World, w0 = w.alloc (.cells #[.int .i64 a0_0, .int .i64 a0_1, .int .i64 a0_2, .slice a0_3.a a0_3.n a0_3.c, .slice a0_4.a a0_4.n a0_4.c] 27) →
 Br (decide ((a1 : Int) < 0))
 (R (.returned (.tuple #[.slice none 0 0, .int .i64 0, .bool false])) w0)
 (Br (decide ((a1 : Int) > 1099511627776))
 (R (.returned (.tuple #[.slice none 0 0, .int .i64 0, .bool false])) w0)
 (Calls Tryz.prog n_ref09_Of #[.agg #[.int .i64 a0_0, .int .i64 a0_1, .int .i64 a0_2, .slice a0_3.a a0_3.n a0_3.c, .slice a0_4.a a0_4.n a0_4.c], .int .i64 a1] w0 (fun e w1 => ∃ (x2 : Int) (x3 : Int) (s4 : Sl), e = .returned (.tuple #[.int .i64 x2, .int .i64 x3, .slice s4.a s4.n s4.c]) ∧ w1.heap[w.heap.size]? = w0.heap[w.heap.size]? ∧
 R (.returned (.tuple #[.slice s4.a s4.n s4.c, .int .i64 x3, .bool (decide ((x3 : Int) > 0))])) w1)))
theorem ref09_Load.vc {a0_0 a0_1 a0_2 a0_3 a0_4 a1 w} {R : Ending → World → Prop} (h : ref09_Load.pre a0_0 a0_1 a0_2 a0_3 a0_4 a1 w R) : Calls Tryz.prog n_ref09_Load #[.agg #[.int .i64 a0_0, .int .i64 a0_1, .int .i64 a0_2, .slice a0_3.a a0_3.n a0_3.c, .slice a0_4.a a0_4.n a0_4.c], .int .i64 a1] w R :=
 calls_of_eq (an := ⟨[], [], []⟩) (args := [.agg #[.int .i64 a0_0, .int .i64 a0_1, .int .i64 a0_2, .slice a0_3.a a0_3.n a0_3.c, .slice a0_4.a a0_4.n a0_4.c], .int .i64 a1]) Tryz.noNG Tryz.mixed Tryz.func80 h (by kernel_rfl)
def ref12_last.pre (a0_0 : Int) (a0_1 : Int) (a0_2 : Int) (a0_3 : Int) (a0_4 : Int) (a0_5 : Sl) (a0_6 : Sl) (a0_7 : Sl) (a1_0 : Int) (a1_1 : Int) (a1_2 : Sl) (a1_3 : Bool) (a1_4 : Int) (w : World) (R : Ending → World → Prop) : Prop :=
 ∀ w0 : World, w0 = w.alloc (.cells #[.int .i64 a0_0, .int .i64 a0_1, .int .i64 a0_2, .int .i64 a0_3, .int .i64 a0_4, .slice a0_5.a a0_5.n a0_5.c, .slice a0_6.a a0_6.n a0_6.c, .slice a0_7.a a0_7.n a0_7.c] 30) →
 ∀ w1 : World, w1 = w0.alloc (.cells #[.int .i64 a1_0, .int .i64 a1_1, .slice a1_2.a a1_2.n a1_2.c, .bool a1_3, .int .i64 a1_4] 110) →
 ∀ w2 : World, w2 = w1.alloc (.cells #[.int .i64 0, .int .i64 0, .int .i64 0, .int .i64 0, .int .i64 0, .slice none 0 0, .slice none 0 0, .slice none 0 0] 30) →
 ∃ l3 : List Value, Rd w2 a0_7.a l3 ∧ AppPre 56 5 w2 ⟨none, 0, 0⟩ a0_7.n l3 ∧ ∀ (s4 : Sl) (w5 : World), AppRes 110 5 w2 ⟨none, 0, 0⟩ a0_7.n l3 s4 w5 → w5.heap[w.heap.size]? = w2.heap[w.heap.size]? ∧ w5.heap[w0.heap.size]? = w2.heap[w0.heap.size]? ∧ w5.heap[w1.heap.size]? = w2.heap[w1.heap.size]? ∧
 ∀ w6 : World, w6 = w5.alloc (.cells #[.int .i64 a1_0, .int .i64 a1_1, .slice a1_2.a a1_2.n a1_2.c, .bool a1_3, .int .i64 a1_4] 110) →
 AppPre 56 5 w6 ⟨s4.a, s4.n, s4.c⟩ 1 [.int .i64 a1_0, .int .i64 a1_1, .slice a1_2.a a1_2.n a1_2.c, .bool a1_3, .int .i64 a1_4] ∧ ∀ (s7 : Sl) (w8 : World), AppRes 110 5 w6 ⟨s4.a, s4.n, s4.c⟩ 1 [.int .i64 a1_0, .int .i64 a1_1, .slice a1_2.a a1_2.n a1_2.c, .bool a1_3, .int .i64 a1_4] s7 w8 → w8.heap[w.heap.size]? = w6.heap[w.heap.size]? ∧ w8.heap[w0.heap.size]? = w6.heap[w0.heap.size]? ∧ w8.heap[w1.heap.size]? = w6.heap[w1.heap.size]? ∧ w8.heap[w5.heap.size]? = w6.heap[w5.heap.size]? ∧
 ∀ w9 : World, w9 = w8.setRow w.heap.size #[.int .i64 a0_0, .int .i64 a0_1, .int .i64 a0_2, .int .i64 a0_3, .int .i64 a0_4, .slice a0_5.a a0_5.n a0_5.c, .slice a0_6.a a0_6.n a0_6.c, .slice s7.a s7.n s7.c] →
 ∀ w10 : World, w10 = w9.setRow w1.heap.size #[.int .i64 a0_0, .int .i64 a0_1, .int .i64 a0_2, .int .i64 a0_3, .int .i64 a0_4, .slice a0_5.a a0_5.n a0_5.c, .slice a0_6.a a0_6.n a0_6.c, .slice s7.a s7.n s7.c] →
 R (.returned (.agg #[.int .i64 a0_0, .int .i64 a0_1, .int .i64 a0_2, .int .i64 a0_3, .int .i64 a0_4, .slice a0_5.a a0_5.n a0_5.c, .slice a0_6.a a0_6.n a0_6.c, .slice s7.a s7.n s7.c])) w10
theorem ref12_last.vc {a0_0 a0_1 a0_2 a0_3 a0_4 a0_5 a0_6 a0_7 a1_0 a1_1 a1_2 a1_3 a1_4 w} {R : Ending → World → Prop} (h : ref12_last.pre a0_0 a0_1 a0_2 a0_3 a0_4 a0_5 a0_6 a0_7 a1_0 a1_1 a1_2 a1_3 a1_4 w R) : Calls Tryz.prog n_ref12_last #[.agg #[.int .i64 a0_0, .int .i64 a0_1, .int .i64 a0_2, .int .i64 a0_3, .int .i64 a0_4, .slice a0_5.a a0_5.n a0_5.c, .slice a0_6.a a0_6.n a0_6.c, .slice a0_7.a a0_7.n a0_7.c], .agg #[.int .i64 a1_0, .int .i64 a1_1, .slice a1_2.a a1_2.n a1_2.c, .bool a1_3, .int .i64 a1_4]] w R :=
 calls_of_eq (an := ⟨[], [], []⟩) (args := [.agg #[.int .i64 a0_0, .int .i64 a0_1, .int .i64 a0_2, .int .i64 a0_3, .int .i64 a0_4, .slice a0_5.a a0_5.n a0_5.c, .slice a0_6.a a0_6.n a0_6.c, .slice a0_7.a a0_7.n a0_7.c], .agg #[.int .i64 a1_0, .int .i64 a1_1, .slice a1_2.a a1_2.n a1_2.c, .bool a1_3, .int .i64 a1_4]]) Tryz.noNG Tryz.mixed Tryz.func77 h (by kernel_rfl)
def ref09_Of.pre (a0_0 : Int) (a0_1 : Int) (a0_2 : Int) (a0_3 : Sl) (a0_4 : Sl) (a1 : Int) (w : World) (R : Ending → World → Prop) : Prop :=
 ∀ w0 : World, w0 = w.alloc (.cells #[.int .i64 a0_0, .int .i64 a0_1, .int .i64 a0_2, .slice a0_3.a a0_3.n a0_3.c, .slice a0_4.a a0_4.n a0_4.c] 27) →
 Calls Tryz.prog n_ref08_Get #[.agg #[.int .i64 a0_0, .int .i64 a0_1, .int .i64 a0_2, .slice a0_3.a a0_3.n a0_3.c, .slice a0_4.a a0_4.n a0_4.c], .int .i64 (IntKind.wrap .i64 (2 * a1))] w0 (fun e w1 => ∃ (s2 : Sl) (b3 : Bool), e = .returned (.tuple #[.slice s2.a s2.n s2.c, .bool b3]) ∧ w1.heap[w.heap.size]? = w0.heap[w.heap.size]? ∧
 Calls Tryz.prog n_ref08_Get #[.agg #[.int .i64 a0_0, .int .i64 a0_1, .int .i64 a0_2, .slice a0_3.a a0_3.n a0_3.c, .slice a0_4.a a0_4.n a0_4.c], .int .i64 (IntKind.wrap .i64 ((IntKind.wrap .i64 (2 * a1)) + 1))] w1 (fun e w4 => ∃ (s5 : Sl) (b6 : Bool), e = .returned (.tuple #[.slice s5.a s5.n s5.c, .bool b6]) ∧ w4.heap[w.heap.size]? = w1.heap[w.heap.size]? ∧
 Calls Tryz.prog n_ref09_Read #[.slice s2.a s2.n s2.c] w4 (fun e w7 => ∃ (x8 : Int) (s9 : Sl) (x10 : Int), e = .returned (.tuple #[.int .i64 x8, .slice s9.a s9.n s9.c, .int .i64 x10]) ∧ w7.heap[w.heap.size]? = w4.heap[w.heap.size]? ∧
 Calls Tryz.prog n_ref09_Read #[.slice s5.a s5.n s5.c] w7 (fun e w11 => ∃ (x12 : Int) (s13 : Sl) (x14 : Int), e = .returned (.tuple #[.int .i64 x12, .slice s13.a s13.n s13.c, .int .i64 x14]) ∧ w11.heap[w.heap.size]? = w7.heap[w.heap.size]? ∧
 Br ((x10 : Int) != 0)
 (Br ((x14 : Int) != 0)
 (R (.returned (.tuple #[.int .i64 (IntKind.wrap .i64 ((IntKind.wrap .i64 (2 * a1)) + 1)), .int .i64 0, .slice none 0 0])) w11)
 (Br ((x14 : Int) != 0)
 (R (.returned (.tuple #[.int .i64 (IntKind.wrap .i64 (2 * a1)), .int .i64 x8, .slice s9.a s9.n s9.c])) w11)
 (Br ((x10 : Int) == 0)
 (Br (decide ((x8 : Int) ≥ x12))
 (R (.returned (.tuple #[.int .i64 (IntKind.wrap .i64 (2 * a1)), .int .i64 x8, .slice s9.a s9.n s9.c])) w11)
 (R (.returned (.tuple #[.int .i64 (IntKind.wrap .i64 ((IntKind.wrap .i64 (2 * a1)) + 1)), .int .i64 x12, .slice s13.a s13.n s13.c])) w11))
 (R (.returned (.tuple #[.int .i64 (IntKind.wrap .i64 ((IntKind.wrap .i64 (2 * a1)) + 1)), .int .i64 x12, .slice s13.a s13.n s13.c])) w11))))
 (Br ((x14 : Int) != 0)
 (R (.returned (.tuple #[.int .i64 (IntKind.wrap .i64 (2 * a1)), .int .i64 x8, .slice s9.a s9.n s9.c])) w11)
 (Br ((x10 : Int) == 0)
 (Br (decide ((x8 : Int) ≥ x12))
 (R (.returned (.tuple #[.int .i64 (IntKind.wrap .i64 (2 * a1)), .int .i64 x8, .slice s9.a s9.n s9.c])) w11)
 (R (.returned (.tuple #[.int .i64 (IntKind.wrap .i64 ((IntKind.wrap .i64 (2 * a1)) + 1)), .int .i64 x12, .slice s13.a s13.n s13.c])) w11))
 (R (.returned (.tuple #[.int .i64 (IntKind.wrap .i64 ((IntKind.wrap .i64 (2 * a1)) + 1)), .int .i64 x12, .slice s13.a s13.n s13.c])) w11)))))))
theorem ref09_Of.vc {a0_0 a0_1 a0_2 a0_3 a0_4 a1 w} {R : Ending → World → Prop} (h : ref09_Of.pre a0_0 a0_1 a0_2 a0_3 a0_4 a1 w R) : Calls Tryz.prog n_ref09_Of #[.agg #[.int .i64 a0_0, .int .i64 a0_1, .int .i64 a0_2, .slice a0_3.a a0_3.n a0_3.c, .slice a0_4.a a0_4.n a0_4.c], .int .i64 a1] w R :=
 calls_of_eq (an := ⟨[], [], []⟩) (args := [.agg #[.int .i64 a0_0, .int .i64 a0_1, .int .i64 a0_2, .slice a0_3.a a0_3.n a0_3.c, .slice a0_4.a a0_4.n a0_4.c], .int .i64 a1]) Tryz.noNG Tryz.mixed Tryz.func125 h (by kernel_rfl)
def ref08_Get.pre (a0_0 : Int) (a0_1 : Int) (a0_2 : Int) (a0_3 : Sl) (a0_4 : Sl) (a1 : Int) (w : World) (R : Ending → World → Prop) : Prop :=
 ∀ w0 : World, w0 = w.alloc (.cells #[.int .i64 a0_0, .int .i64 a0_1, .int .i64 a0_2, .slice a0_3.a a0_3.n a0_3.c, .slice a0_4.a a0_4.n a0_4.c] 27) →
 Calls Tryz.prog n_ref08_Now #[.agg #[.int .i64 a0_0, .int .i64 a0_1, .int .i64 a0_2, .slice a0_3.a a0_3.n a0_3.c, .slice a0_4.a a0_4.n a0_4.c]] w0 (fun e w1 => ∃ (s2 : Sl), e = .returned (.slice s2.a s2.n s2.c) ∧ w1.heap[w.heap.size]? = w0.heap[w.heap.size]? ∧
 ∃ I3 : Nat → Int → World → Prop,
 (∃ n4, ([.int .i64 a0_0, .int .i64 a0_1, .int .i64 a0_2, .slice a0_3.a a0_3.n a0_3.c, .slice a0_4.a a0_4.n a0_4.c] : List Value) = [.int .i64 a0_0, .int .i64 a0_1, .int .i64 a0_2, .slice a0_3.a a0_3.n a0_3.c, .slice a0_4.a a0_4.n a0_4.c] ∧ I3 n4 (0) w1) ∧
 ∀ (n4 : Nat) (us5 : Nat → Value) (x6 : Int) (w7 : World), I3 n4 x6 w7 →
 Br (decide ((x6 : Int) < ((s2.n : Nat) : Int)))
 (InB s2.a x6 s2.n ∧ AndL (nnC (padd s2.a ((x6 : Int).toNat * 2))) (∃ (x9 : Int), ld w7 (padd (padd s2.a ((x6 : Int).toNat * 2)) 0) = some (.int .i64 x9) ∧
 Br ((x9 : Int) == a1)
 (InB s2.a x6 s2.n ∧ AndL (nnC (padd s2.a ((x6 : Int).toNat * 2))) (∃ (s10 : Sl), ld w7 (padd (padd s2.a ((x6 : Int).toNat * 2)) 1) = some (.slice s10.a s10.n s10.c) ∧
 R (.returned (.tuple #[.slice s10.a s10.n s10.c, .bool true])) w7))
 (∃ n8, n8 < n4 ∧ ([.int .i64 a0_0, .int .i64 a0_1, .int .i64 a0_2, .slice a0_3.a a0_3.n a0_3.c, .slice a0_4.a a0_4.n a0_4.c] : List Value) = [.int .i64 a0_0, .int .i64 a0_1, .int .i64 a0_2, .slice a0_3.a a0_3.n a0_3.c, .slice a0_4.a a0_4.n a0_4.c] ∧ I3 n8 ((IntKind.wrap .i64 (x6 + 1))) w7)))
 (R (.returned (.tuple #[.slice none 0 0, .bool false])) w7))
theorem ref08_Get.vc {a0_0 a0_1 a0_2 a0_3 a0_4 a1 w} {R : Ending → World → Prop} (h : ref08_Get.pre a0_0 a0_1 a0_2 a0_3 a0_4 a1 w R) : Calls Tryz.prog n_ref08_Get #[.agg #[.int .i64 a0_0, .int .i64 a0_1, .int .i64 a0_2, .slice a0_3.a a0_3.n a0_3.c, .slice a0_4.a a0_4.n a0_4.c], .int .i64 a1] w R :=
 calls_of_eq (an := ⟨[(3, ⟨[(7, .int .i64)], [], []⟩)], [], []⟩) (args := [.agg #[.int .i64 a0_0, .int .i64 a0_1, .int .i64 a0_2, .slice a0_3.a a0_3.n a0_3.c, .slice a0_4.a a0_4.n a0_4.c], .int .i64 a1]) Tryz.noNG Tryz.mixed Tryz.func171 h (by kernel_rfl)
def ref09_Read.pre (a0 : Sl) (w : World) (R : Ending → World → Prop) : Prop :=
 Calls Tryz.prog n_ref07_Take #[.slice a0.a a0.n a0.c] w (fun e w0 => ∃ (s1 : Sl) (x2 : Int), e = .returned (.tuple #[.slice s1.a s1.n s1.c, .int .i64 x2]) ∧
 Br ((x2 : Int) != 0)
 (R (.returned (.tuple #[.int .i64 0, .slice none 0 0, .int .i64 x2])) w0)
 (Br (decide ((((s1.n : Nat) : Int) : Int) < 7))
 (R (.returned (.tuple #[.int .i64 0, .slice none 0 0, .int .i64 3])) w0)
 ((0 : Int) ≤ 4 ∧ 4 ≤ ((s1.c : Nat) : Int) ∧ Calls Tryz.prog n_ref09_num #[.slice (slBase s1.a (0) (s1.c) 1) ((4 : Int).toNat - 0) (s1.c - 0)] w0 (fun e w3 => ∃ (x4 : Int), e = .returned (.int .i64 x4) ∧
 (0 : Int) ≤ 7 ∧ 7 ≤ ((s1.c : Nat) : Int) ∧ (0 : Int) ≤ 4 ∧ (4 : Int) ≤ 7 ∧ Calls Tryz.prog n_ref09_num #[.slice (slBase s1.a ((4 : Int).toNat) (s1.c) 1) ((7 : Int).toNat - (4 : Int).toNat) (s1.c - (4 : Int).toNat)] w3 (fun e w5 => ∃ (x6 : Int), e = .returned (.int .i64 x6) ∧
 Br (decide ((x4 : Int) < 1))
 (R (.returned (.tuple #[.int .i64 0, .slice none 0 0, .int .i64 2])) w5)
 (Br (decide ((x4 : Int) > 1073741824))
 (R (.returned (.tuple #[.int .i64 0, .slice none 0 0, .int .i64 2])) w5)
 (Br (decide ((x6 : Int) > 65536))
 (R (.returned (.tuple #[.int .i64 0, .slice none 0 0, .int .i64 2])) w5)
 (Br ((x6 : Int) != (IntKind.wrap .i64 (((s1.n : Nat) : Int) - 7)))
 (R (.returned (.tuple #[.int .i64 0, .slice none 0 0, .int .i64 2])) w5)
 ((0 : Int) ≤ 7 ∧ 7 ≤ ((s1.n : Nat) : Int) ∧ R (.returned (.tuple #[.int .i64 x4, .slice (slBase s1.a ((7 : Int).toNat) (s1.c) 1) (s1.n - (7 : Int).toNat) (s1.c - (7 : Int).toNat), .int .i64 0])) w5.drew)))))))))
theorem ref09_Read.vc {a0 w} {R : Ending → World → Prop} (h : ref09_Read.pre a0 w R) : Calls Tryz.prog n_ref09_Read #[.slice a0.a a0.n a0.c] w R :=
 calls_of_eq (an := ⟨[], [], []⟩) (args := [.slice a0.a a0.n a0.c]) Tryz.noNG Tryz.mixed Tryz.func172 h (by kernel_rfl)
def ref08_Lay.pre (a0 : Sl) (a1_0 : Int) (a1_1 : Sl) (w : World) (R : Ending → World → Prop) : Prop :=
 ∀ w0 : World, w0 = w.alloc (.cells #[.int .i64 a1_0, .slice a1_1.a a1_1.n a1_1.c] 274) →
 ∃ I1 : Nat → Int → Bool → Sl → World → Prop,
 (∃ n2, ([.int .i64 a1_0, .slice a1_1.a a1_1.n a1_1.c] : List Value) = [.int .i64 a1_0, .slice a1_1.a a1_1.n a1_1.c] ∧ I1 n2 (0) false ⟨none, 0, 0⟩ w0) ∧
 ∀ (n2 : Nat) (us3 : Nat → Value) (x4 : Int) (b5 : Bool) (s6 : Sl) (w7 : World), I1 n2 x4 b5 s6 w7 →
 Br (decide ((x4 : Int) < ((a0.n : Nat) : Int)))
 (Br (!b5)
 (InB a0.a x4 a0.n ∧ AndL (nnC (padd a0.a ((x4 : Int).toNat * 2))) (∃ (x9 : Int), ld w7.drew (padd (padd a0.a ((x4 : Int).toNat * 2)) 0) = some (.int .i64 x9) ∧
 Br (decide ((x9 : Int) ≥ a1_0))
 (∀ w10 : World, w10 = w7.drew.alloc (.cells #[.int .i64 a1_0, .slice a1_1.a a1_1.n a1_1.c] 274) →
 AppPre 32 2 w10 ⟨s6.a, s6.n, s6.c⟩ 1 [.int .i64 a1_0, .slice a1_1.a a1_1.n a1_1.c] ∧ ∀ (s11 : Sl) (w12 : World), AppRes 274 2 w10 ⟨s6.a, s6.n, s6.c⟩ 1 [.int .i64 a1_0, .slice a1_1.a a1_1.n a1_1.c] s11 w12 → w12.heap[w.heap.size]? = w10.heap[w.heap.size]? ∧ w12.heap[w7.drew.heap.size]? = w10.heap[w7.drew.heap.size]? ∧
 InB a0.a x4 a0.n ∧ AndL (nnC (padd a0.a ((x4 : Int).toNat * 2))) (∃ (x13 : Int), ld w12.drew (padd (padd a0.a ((x4 : Int).toNat * 2)) 0) = some (.int .i64 x13) ∧
 Br ((x13 : Int) != a1_0)
 (InB a0.a x4 a0.n ∧ ∃ (x14 : Int) (s15 : Sl), LoadL w12.drew (padd a0.a ((x4 : Int).toNat * 2)) 0 [.int .i64 x14, .slice s15.a s15.n s15.c] ∧
 ∀ w16 : World, w16 = w12.drew.alloc (.cells #[.int .i64 x14, .slice s15.a s15.n s15.c] 274) →
 AppPre 32 2 w16 ⟨s11.a, s11.n, s11.c⟩ 1 [.int .i64 x14, .slice s15.a s15.n s15.c] ∧ ∀ (s17 : Sl) (w18 : World), AppRes 274 2 w16 ⟨s11.a, s11.n, s11.c⟩ 1 [.int .i64 x14, .slice s15.a s15.n s15.c] s17 w18 → w18.heap[w.heap.size]? = w16.heap[w.heap.size]? ∧ w18.heap[w7.drew.heap.size]? = w16.heap[w7.drew.heap.size]? ∧ w18.heap[w12.drew.heap.size]? = w16.heap[w12.drew.heap.size]? ∧
 ∃ n8, n8 < n2 ∧ ([.int .i64 a1_0, .slice a1_1.a a1_1.n a1_1.c] : List Value) = [.int .i64 a1_0, .slice a1_1.a a1_1.n a1_1.c] ∧ I1 n8 ((IntKind.wrap .i64 (x4 + 1))) true ⟨s17.a, s17.n, s17.c⟩ w18)
 (∃ n8, n8 < n2 ∧ ([.int .i64 a1_0, .slice a1_1.a a1_1.n a1_1.c] : List Value) = [.int .i64 a1_0, .slice a1_1.a a1_1.n a1_1.c] ∧ I1 n8 ((IntKind.wrap .i64 (x4 + 1))) true ⟨s11.a, s11.n, s11.c⟩ w12.drew)))
 (InB a0.a x4 a0.n ∧ AndL (nnC (padd a0.a ((x4 : Int).toNat * 2))) (∃ (x19 : Int), ld w7.drew.drew (padd (padd a0.a ((x4 : Int).toNat * 2)) 0) = some (.int .i64 x19) ∧
 Br ((x19 : Int) != a1_0)
 (InB a0.a x4 a0.n ∧ ∃ (x20 : Int) (s21 : Sl), LoadL w7.drew.drew (padd a0.a ((x4 : Int).toNat * 2)) 0 [.int .i64 x20, .slice s21.a s21.n s21.c] ∧
 ∀ w22 : World, w22 = w7.drew.drew.alloc (.cells #[.int .i64 x20, .slice s21.a s21.n s21.c] 274) →
 AppPre 32 2 w22 ⟨s6.a, s6.n, s6.c⟩ 1 [.int .i64 x20, .slice s21.a s21.n s21.c] ∧ ∀ (s23 : Sl) (w24 : World), AppRes 274 2 w22 ⟨s6.a, s6.n, s6.c⟩ 1 [.int .i64 x20, .slice s21.a s21.n s21.c] s23 w24 → w24.heap[w.heap.size]? = w22.heap[w.heap.size]? ∧ w24.heap[w7.drew.drew.heap.size]? = w22.heap[w7.drew.drew.heap.size]? ∧
 ∃ n8, n8 < n2 ∧ ([.int .i64 a1_0, .slice a1_1.a a1_1.n a1_1.c] : List Value) = [.int .i64 a1_0, .slice a1_1.a a1_1.n a1_1.c] ∧ I1 n8 ((IntKind.wrap .i64 (x4 + 1))) b5 ⟨s23.a, s23.n, s23.c⟩ w24)
 (∃ n8, n8 < n2 ∧ ([.int .i64 a1_0, .slice a1_1.a a1_1.n a1_1.c] : List Value) = [.int .i64 a1_0, .slice a1_1.a a1_1.n a1_1.c] ∧ I1 n8 ((IntKind.wrap .i64 (x4 + 1))) b5 ⟨s6.a, s6.n, s6.c⟩ w7.drew.drew)))))
 (InB a0.a x4 a0.n ∧ AndL (nnC (padd a0.a ((x4 : Int).toNat * 2))) (∃ (x25 : Int), ld w7.drew.drew (padd (padd a0.a ((x4 : Int).toNat * 2)) 0) = some (.int .i64 x25) ∧
 Br ((x25 : Int) != a1_0)
 (InB a0.a x4 a0.n ∧ ∃ (x26 : Int) (s27 : Sl), LoadL w7.drew.drew (padd a0.a ((x4 : Int).toNat * 2)) 0 [.int .i64 x26, .slice s27.a s27.n s27.c] ∧
 ∀ w28 : World, w28 = w7.drew.drew.alloc (.cells #[.int .i64 x26, .slice s27.a s27.n s27.c] 274) →
 AppPre 32 2 w28 ⟨s6.a, s6.n, s6.c⟩ 1 [.int .i64 x26, .slice s27.a s27.n s27.c] ∧ ∀ (s29 : Sl) (w30 : World), AppRes 274 2 w28 ⟨s6.a, s6.n, s6.c⟩ 1 [.int .i64 x26, .slice s27.a s27.n s27.c] s29 w30 → w30.heap[w.heap.size]? = w28.heap[w.heap.size]? ∧ w30.heap[w7.drew.drew.heap.size]? = w28.heap[w7.drew.drew.heap.size]? ∧
 ∃ n8, n8 < n2 ∧ ([.int .i64 a1_0, .slice a1_1.a a1_1.n a1_1.c] : List Value) = [.int .i64 a1_0, .slice a1_1.a a1_1.n a1_1.c] ∧ I1 n8 ((IntKind.wrap .i64 (x4 + 1))) b5 ⟨s29.a, s29.n, s29.c⟩ w30)
 (∃ n8, n8 < n2 ∧ ([.int .i64 a1_0, .slice a1_1.a a1_1.n a1_1.c] : List Value) = [.int .i64 a1_0, .slice a1_1.a a1_1.n a1_1.c] ∧ I1 n8 ((IntKind.wrap .i64 (x4 + 1))) b5 ⟨s6.a, s6.n, s6.c⟩ w7.drew.drew))))
 (Br (!b5)
 (∀ w31 : World, w31 = w7.alloc (.cells #[.int .i64 a1_0, .slice a1_1.a a1_1.n a1_1.c] 274) →
 AppPre 32 2 w31 ⟨s6.a, s6.n, s6.c⟩ 1 [.int .i64 a1_0, .slice a1_1.a a1_1.n a1_1.c] ∧ ∀ (s32 : Sl) (w33 : World), AppRes 274 2 w31 ⟨s6.a, s6.n, s6.c⟩ 1 [.int .i64 a1_0, .slice a1_1.a a1_1.n a1_1.c] s32 w33 → w33.heap[w.heap.size]? = w31.heap[w.heap.size]? ∧ w33.heap[w7.heap.size]? = w31.heap[w7.heap.size]? ∧
 R (.returned (.slice s32.a s32.n s32.c)) w33)
 (R (.returned (.slice s6.a s6.n s6.c)) w7))
theorem ref08_Lay.vc {a0 a1_0 a1_1 w} {R : Ending → World → Prop} (h : ref08_Lay.pre a0 a1_0 a1_1 w R) : Calls Tryz.prog n_ref08_Lay #[.slice a0.a a0.n a0.c, .agg #[.int .i64 a1_0, .slice a1_1.a a1_1.n a1_1.c]] w R :=
 calls_of_eq (an := ⟨[(4, ⟨[(7, .int .i64), (6, .bool), (5, .slice)], [], []⟩)], [], []⟩) (args := [.slice a0.a a0.n a0.c, .agg #[.int .i64 a1_0, .slice a1_1.a a1_1.n a1_1.c]]) Tryz.noNG Tryz.mixed Tryz.func215 h (by kernel_rfl)
def ref08_Now.pre (a0_0 : Int) (a0_1 : Int) (a0_2 : Int) (a0_3 : Sl) (a0_4 : Sl) (w : World) (R : Ending → World → Prop) : Prop :=
 ∀ w0 : World, w0 = w.alloc (.cells #[.int .i64 a0_0, .int .i64 a0_1, .int .i64 a0_2, .slice a0_3.a a0_3.n a0_3.c, .slice a0_4.a a0_4.n a0_4.c] 27) →
 ∃ I1 : Nat → Int → Sl → World → Prop,
 (∃ n2, ([.int .i64 a0_0, .int .i64 a0_1, .int .i64 a0_2, .slice a0_3.a a0_3.n a0_3.c, .slice a0_4.a a0_4.n a0_4.c] : List Value) = [.int .i64 a0_0, .int .i64 a0_1, .int .i64 a0_2, .slice a0_3.a a0_3.n a0_3.c, .slice a0_4.a a0_4.n a0_4.c] ∧ I1 n2 (0) ⟨a0_3.a, a0_3.n, a0_3.c⟩ w0) ∧
 ∀ (n2 : Nat) (us3 : Nat → Value) (x4 : Int) (s5 : Sl) (w6 : World), I1 n2 x4 s5 w6 →
 Br (decide ((x4 : Int) < ((a0_4.n : Nat) : Int)))
 (InB a0_4.a x4 a0_4.n ∧ ∃ (x8 : Int) (s9 : Sl), LoadL w6 (padd a0_4.a ((x4 : Int).toNat * 2)) 0 [.int .i64 x8, .slice s9.a s9.n s9.c] ∧
 Calls Tryz.prog n_ref08_Lay #[.slice s5.a s5.n s5.c, .agg #[.int .i64 x8, .slice s9.a s9.n s9.c]] w6 (fun e w10 => ∃ (s11 : Sl), e = .returned (.slice s11.a s11.n s11.c) ∧ w10.heap[w.heap.size]? = w6.heap[w.heap.size]? ∧
 ∃ n7, n7 < n2 ∧ ([.int .i64 a0_0, .int .i64 a0_1, .int .i64 a0_2, .slice a0_3.a a0_3.n a0_3.c, .slice a0_4.a a0_4.n a0_4.c] : List Value) = [.int .i64 a0_0, .int .i64 a0_1, .int .i64 a0_2, .slice a0_3.a a0_3.n a0_3.c, .slice a0_4.a a0_4.n a0_4.c] ∧ I1 n7 ((IntKind.wrap .i64 (x4 + 1))) ⟨s11.a, s11.n, s11.c⟩ w10))
 (R (.returned (.slice s5.a s5.n s5.c)) w6)
theorem ref08_Now.vc {a0_0 a0_1 a0_2 a0_3 a0_4 w} {R : Ending → World → Prop} (h : ref08_Now.pre a0_0 a0_1 a0_2 a0_3 a0_4 w R) : Calls Tryz.prog n_ref08_Now #[.agg #[.int .i64 a0_0, .int .i64 a0_1, .int .i64 a0_2, .slice a0_3.a a0_3.n a0_3.c, .slice a0_4.a a0_4.n a0_4.c]] w R :=
 calls_of_eq (an := ⟨[(3, ⟨[(4, .int .i64), (3, .slice)], [], []⟩)], [], []⟩) (args := [.agg #[.int .i64 a0_0, .int .i64 a0_1, .int .i64 a0_2, .slice a0_3.a a0_3.n a0_3.c, .slice a0_4.a a0_4.n a0_4.c]]) Tryz.noNG Tryz.mixed Tryz.func216 h (by kernel_rfl)
def ref07_Take.pre (a0 : Sl) (w : World) (R : Ending → World → Prop) : Prop :=
 Br (decide (((IntKind.wrap .i64 (((a0.n : Nat) : Int) - 2)) : Int) < 0))
 (R (.returned (.tuple #[.slice none 0 0, .int .i64 3])) w)
 (InB a0.a (IntKind.wrap .i64 (((a0.n : Nat) : Int) - 2)) a0.n ∧ ∃ (x0 : Int), ld w.drew (padd a0.a (((IntKind.wrap .i64 (((a0.n : Nat) : Int) - 2)) : Int).toNat * 1)) = some (.int .u8 x0) ∧
 InB a0.a (IntKind.wrap .i64 ((IntKind.wrap .i64 (((a0.n : Nat) : Int) - 2)) + 1)) a0.n ∧ ∃ (x1 : Int), ld w.drew (padd a0.a (((IntKind.wrap .i64 ((IntKind.wrap .i64 (((a0.n : Nat) : Int) - 2)) + 1)) : Int).toNat * 1)) = some (.int .u8 x1) ∧
 (0 : Int) ≤ (IntKind.wrap .i64 (((a0.n : Nat) : Int) - 2)) ∧ (IntKind.wrap .i64 (((a0.n : Nat) : Int) - 2)) ≤ ((a0.c : Nat) : Int) ∧ Calls Tryz.prog n_ref07_Of #[.slice (slBase a0.a (0) (a0.c) 1) (((IntKind.wrap .i64 (((a0.n : Nat) : Int) - 2)) : Int).toNat - 0) (a0.c - 0)] w.drew (fun e w2 => ∃ (x3 : Int), e = .returned (.int .i64 x3) ∧
 LoadL w2 (padd a0.a (((IntKind.wrap .i64 ((IntKind.wrap .i64 (((a0.n : Nat) : Int) - 2)) + 1)) : Int).toNat * 1)) 0 [.int .u8 x1] ∧ LoadL w2 (padd a0.a (((IntKind.wrap .i64 (((a0.n : Nat) : Int) - 2)) : Int).toNat * 1)) 0 [.int .u8 x0] ∧ Br (((IntKind.wrap .i64 ((IntKind.wrap .i64 ((IntKind.wrap .i64 x0) * 256)) + (IntKind.wrap .i64 x1))) : Int) != x3)
 (R (.returned (.tuple #[.slice none 0 0, .int .i64 4])) w2)
 ((0 : Int) ≤ (IntKind.wrap .i64 (((a0.n : Nat) : Int) - 2)) ∧ (IntKind.wrap .i64 (((a0.n : Nat) : Int) - 2)) ≤ ((a0.c : Nat) : Int) ∧ R (.returned (.tuple #[.slice (slBase a0.a (0) (a0.c) 1) (((IntKind.wrap .i64 (((a0.n : Nat) : Int) - 2)) : Int).toNat - 0) (a0.c - 0), .int .i64 0])) w2)))
theorem ref07_Take.vc {a0 w} {R : Ending → World → Prop} (h : ref07_Take.pre a0 w R) : Calls Tryz.prog n_ref07_Take #[.slice a0.a a0.n a0.c] w R :=
 calls_of_eq (an := ⟨[], [], []⟩) (args := [.slice a0.a a0.n a0.c]) Tryz.noNG Tryz.mixed Tryz.func217 h (by kernel_rfl)
def ref09_num.pre (a0 : Sl) (w : World) (R : Ending → World → Prop) : Prop :=
 ∃ I0 : Nat → Int → Int → World → Prop,
 (∃ n1, I0 n1 (0) (0) w) ∧
 ∀ (n1 : Nat) (us2 : Nat → Value) (x3 : Int) (x4 : Int) (w5 : World), I0 n1 x3 x4 w5 →
 Br (decide ((x3 : Int) < ((a0.n : Nat) : Int)))
 (InB a0.a x3 a0.n ∧ ∃ (x7 : Int), ld w5 (padd a0.a ((x3 : Int).toNat * 1)) = some (.int .u8 x7) ∧
 ∃ n6, n6 < n1 ∧ I0 n6 ((IntKind.wrap .i64 (x3 + 1))) ((IntKind.wrap .i64 ((IntKind.wrap .i64 (x4 * 256)) + (IntKind.wrap .i64 x7)))) w5)
 (R (.returned (.int .i64 x4)) w5)
theorem ref09_num.vc {a0 w} {R : Ending → World → Prop} (h : ref09_num.pre a0 w R) : Calls Tryz.prog n_ref09_num #[.slice a0.a a0.n a0.c] w R :=
 calls_of_eq (an := ⟨[(3, ⟨[(4, .int .i64), (3, .int .i64)], [], []⟩)], [], []⟩) (args := [.slice a0.a a0.n a0.c]) Tryz.noNG Tryz.mixed Tryz.func218 h (by kernel_rfl)
def ref07_Of.pre (a0 : Sl) (w : World) (R : Ending → World → Prop) : Prop :=
 Calls Tryz.prog n_ref07_Sum #[.int .i64 65535, .slice a0.a a0.n a0.c] w (fun e w0 => ∃ (x1 : Int), e = .returned (.int .i64 x1) ∧
 R (.returned (.int .i64 x1)) w0)
theorem ref07_Of.vc {a0 w} {R : Ending → World → Prop} (h : ref07_Of.pre a0 w R) : Calls Tryz.prog n_ref07_Of #[.slice a0.a a0.n a0.c] w R :=
 calls_of_eq (an := ⟨[], [], []⟩) (args := [.slice a0.a a0.n a0.c]) Tryz.noNG Tryz.mixed Tryz.func240 h (by kernel_rfl)
def ref07_Sum.pre (a0 : Int) (a1 : Sl) (w : World) (R : Ending → World → Prop) : Prop :=
 ∃ I0 : Nat → Int → Int → World → Prop,
 (∃ n1, I0 n1 (0) (a0) w) ∧
 ∀ (n1 : Nat) (us2 : Nat → Value) (x3 : Int) (x4 : Int) (w5 : World), I0 n1 x3 x4 w5 →
 Br (decide ((x3 : Int) < ((a1.n : Nat) : Int)))
 (InB a1.a x3 a1.n ∧ ∃ (x7 : Int), ld w5 (padd a1.a ((x3 : Int).toNat * 1)) = some (.int .u8 x7) ∧
 ∃ I8 : Nat → Int → Int → World → Prop,
 (∃ n9, I8 n9 (0) ((bXor .i64 x4 (IntKind.wrap .i64 ((IntKind.wrap .i64 x7) * 256)))) w5) ∧
 ∀ (n9 : Nat) (us10 : Nat → Value) (x11 : Int) (x12 : Int) (w13 : World), I8 n9 x11 x12 w13 →
 Br (decide ((x11 : Int) < 8))
 (Br (decide (((IntKind.wrap .i64 (x12 * 2)) : Int) ≥ 65536))
 (∃ n14, n14 < n9 ∧ I8 n14 ((IntKind.wrap .i64 (x11 + 1))) ((bXor .i64 (IntKind.wrap .i64 ((IntKind.wrap .i64 (x12 * 2)) - 65536)) 4129)) w13)
 (∃ n14, n14 < n9 ∧ I8 n14 ((IntKind.wrap .i64 (x11 + 1))) ((IntKind.wrap .i64 (x12 * 2))) w13))
 (∃ n6, n6 < n1 ∧ I0 n6 ((IntKind.wrap .i64 (x3 + 1))) (x12) w13))
 (R (.returned (.int .i64 x4)) w5)
theorem ref07_Sum.vc {a0 a1 w} {R : Ending → World → Prop} (h : ref07_Sum.pre a0 a1 w R) : Calls Tryz.prog n_ref07_Sum #[.int .i64 a0, .slice a1.a a1.n a1.c] w R :=
 calls_of_eq (an := ⟨[(6, ⟨[(6, .int .i64), (0, .int .i64)], [], []⟩), (2, ⟨[(5, .int .i64), (0, .int .i64)], [], []⟩)], [], []⟩) (args := [.int .i64 a0, .slice a1.a a1.n a1.c]) Tryz.noNG Tryz.mixed Tryz.func248 h (by kernel_rfl)
end Go.Proofs.YtalpkjfpmdpbiaaGreatDoor
