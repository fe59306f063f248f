import Derived.Test.YtbnmglonbhdcbaaGreatDoorGS
set_option linter.all false
namespace Go.Proofs.YtbnmglonbhdcbaaGreatDoor
open Go Go.Vc Go.RowKit Go.Proofs
set_option maxRecDepth 100000
set_option maxHeartbeats 8000000
set_option linter.unusedVariables false
abbrev n_ref12_At : FuncId := 46
abbrev n_ref12_New : FuncId := 50
abbrev n_ref12_Load : FuncId := 78
abbrev n_ref12_Unload : FuncId := 79
abbrev n_ref12_Find : FuncId := 82
abbrev n_ref08_New : FuncId := 85
abbrev n_ref12_Set : FuncId := 91
abbrev n_ref09_Save : FuncId := 92
abbrev n_ref09_Load : FuncId := 99
abbrev n_ref12_last : FuncId := 123
abbrev n_ref12_without : FuncId := 124
abbrev n_ref12_save : FuncId := 125
abbrev n_ref12_with : FuncId := 129
abbrev n_ref09_Of : FuncId := 132
abbrev n_ref09_Write : FuncId := 133
abbrev n_ref08_Put : FuncId := 134
abbrev n_ref08_Sync : FuncId := 135
abbrev n_ref08_Get : FuncId := 157
abbrev n_ref09_Read : FuncId := 158
abbrev n_ref09_digits : FuncId := 159
abbrev n_ref07_Put : FuncId := 160
abbrev n_ref08_asked : FuncId := 161
abbrev n_ref08_Len : FuncId := 162
abbrev n_ref08_Lay : FuncId := 163
abbrev n_ref08_Now : FuncId := 164
abbrev n_ref07_Take : FuncId := 192
abbrev n_ref09_num : FuncId := 193
abbrev n_ref07_Of : FuncId := 194
abbrev n_ref07_Sum : FuncId := 204
def ref12_At.pre (a0_0 : Int) (a0_1 : Int) (a0_2 : Int) (a0_3 : Int) (a0_4 : Int) (a0_5 : Sl) (a0_6 : Sl) (a0_7 : Sl) (a1_0 : Int) (a1_1 : Int) (a1_2 : Int) (w : World) (R : Ending → World → Prop) : Prop :=
 ∀ w0 : World, w0 = w.alloc (.cells #[.int .i64 a0_0, .int .i64 a0_1, .int .i64 a0_2, .int .i64 a0_3, .int .i64 a0_4, .slice a0_5.a a0_5.n a0_5.c, .slice a0_6.a a0_6.n a0_6.c, .slice a0_7.a a0_7.n a0_7.c] 90) →
 ∀ w1 : World, w1 = w0.alloc (.cells #[.int .i64 a1_0, .int .i64 a1_1, .int .i64 a1_2] 26) →
 Calls Tryz.prog 42 #[.agg #[.int .i64 a1_0, .int .i64 a1_1, .int .i64 a1_2]] w1.drew (fun e w2 => ∃ (x3 : Int) (x4 : Int), e = .returned (.agg #[.int .i64 x3, .int .i64 x4]) ∧ w2.heap[w.heap.size]? = w1.drew.heap[w.heap.size]? ∧ w2.heap[w0.heap.size]? = w1.drew.heap[w0.heap.size]? ∧
 LoadL w2 (some ⟨w.heap.size, 0, none⟩) 0 [.int .i64 a0_0, .int .i64 a0_1, .int .i64 a0_2, .int .i64 a0_3, .int .i64 a0_4, .slice a0_5.a a0_5.n a0_5.c, .slice a0_6.a a0_6.n a0_6.c, .slice a0_7.a a0_7.n a0_7.c] ∧ Calls Tryz.prog n_ref12_Find #[.agg #[.int .i64 a0_0, .int .i64 a0_1, .int .i64 a0_2, .int .i64 a0_3, .int .i64 a0_4, .slice a0_5.a a0_5.n a0_5.c, .slice a0_6.a a0_6.n a0_6.c, .slice a0_7.a a0_7.n a0_7.c], .agg #[.int .i64 x3, .int .i64 x4]] w2 (fun e w5 => ∃ (x6 : Int), e = .returned (.int .i64 x6) ∧ w5.heap[w.heap.size]? = w2.heap[w.heap.size]? ∧ w5.heap[w0.heap.size]? = w2.heap[w0.heap.size]? ∧
 Br (decide ((x6 : Int) < 0))
 (R (.returned (.int .i64 (-1))) w5)
 (Br (decide ((a1_1 : Int) < 0))
 (R (.returned (.int .i64 1)) w5)
 (Br (decide ((a1_1 : Int) > 31))
 (R (.returned (.int .i64 0)) w5)
 (InB a0_7.a x6 a0_7.n ∧ AndL (nnC (padd a0_7.a ((x6 : Int).toNat * 5))) (∃ (x7 : Int) (x8 : Int) (s9 : Sl), LoadL w5.drew (padd (padd a0_7.a ((x6 : Int).toNat * 5)) 0) 0 [.int .i64 x7, .int .i64 x8, .slice s9.a s9.n s9.c] ∧
 Calls Tryz.prog 83 #[.agg #[.int .i64 x7, .int .i64 x8, .slice s9.a s9.n s9.c], .agg #[.int .i64 a1_0, .int .i64 a1_1, .int .i64 a1_2]] w5.drew (fun e w10 => ∃ (x11 : Int), e = .returned (.int .i64 x11) ∧ w10.heap[w.heap.size]? = w5.drew.heap[w.heap.size]? ∧ w10.heap[w0.heap.size]? = w5.drew.heap[w0.heap.size]? ∧
 LoadL w10 (some ⟨w.heap.size, 7, none⟩) 0 [.slice a0_7.a a0_7.n a0_7.c] ∧ R (.returned (.int .i64 x11)) w10)))))))
theorem ref12_At.vc {a0_0 a0_1 a0_2 a0_3 a0_4 a0_5 a0_6 a0_7 a1_0 a1_1 a1_2 w} {R : Ending → World → Prop} (h : ref12_At.pre a0_0 a0_1 a0_2 a0_3 a0_4 a0_5 a0_6 a0_7 a1_0 a1_1 a1_2 w R) : Calls Tryz.prog n_ref12_At #[.agg #[.int .i64 a0_0, .int .i64 a0_1, .int .i64 a0_2, .int .i64 a0_3, .int .i64 a0_4, .slice a0_5.a a0_5.n a0_5.c, .slice a0_6.a a0_6.n a0_6.c, .slice a0_7.a a0_7.n a0_7.c], .agg #[.int .i64 a1_0, .int .i64 a1_1, .int .i64 a1_2]] w R :=
 calls_of_eq (an := ⟨[], [], []⟩) (args := [.agg #[.int .i64 a0_0, .int .i64 a0_1, .int .i64 a0_2, .int .i64 a0_3, .int .i64 a0_4, .slice a0_5.a a0_5.n a0_5.c, .slice a0_6.a a0_6.n a0_6.c, .slice a0_7.a a0_7.n a0_7.c], .agg #[.int .i64 a1_0, .int .i64 a1_1, .int .i64 a1_2]]) Tryz.noNG Tryz.mixed Tryz.func46 h (by kernel_rfl)
def ref12_New.pre (a0 : Int) (a1 : Int) (a2 : Int) (w : World) (R : Ending → World → Prop) : Prop :=
 ∀ w0 : World, w0 = w.alloc (.cells #[.int .i64 0, .int .i64 0, .int .i64 0, .int .i64 0, .int .i64 0, .slice none 0 0, .slice none 0 0, .slice none 0 0] 90) →
 Calls Tryz.prog n_ref08_New #[.int .i64 a2] w0 (fun e w1 => ∃ (x2 : Int) (x3 : Int) (x4 : Int) (s5 : Sl) (s6 : Sl), e = .returned (.agg #[.int .i64 x2, .int .i64 x3, .int .i64 x4, .slice s5.a s5.n s5.c, .slice s6.a s6.n s6.c]) ∧ w1.heap[w.heap.size]? = w0.heap[w.heap.size]? ∧
 ∀ w7 : World, w7 = w1.setRow w.heap.size #[.int .i64 a0, .int .i64 (if 16 < (if 1 > a1 then 1 else a1) then 16 else (if 1 > a1 then 1 else a1)), .int .i64 x2, .int .i64 x3, .int .i64 x4, .slice s5.a s5.n s5.c, .slice s6.a s6.n s6.c, .slice none 0 0] →
 R (.returned (.agg #[.int .i64 a0, .int .i64 (if 16 < (if 1 > a1 then 1 else a1) then 16 else (if 1 > a1 then 1 else a1)), .int .i64 x2, .int .i64 x3, .int .i64 x4, .slice s5.a s5.n s5.c, .slice s6.a s6.n s6.c, .slice none 0 0])) w7)
theorem ref12_New.vc {a0 a1 a2 w} {R : Ending → World → Prop} (h : ref12_New.pre a0 a1 a2 w R) : Calls Tryz.prog n_ref12_New #[.int .i64 a0, .int .i64 a1, .int .i64 a2] w R :=
 calls_of_eq (an := ⟨[], [], []⟩) (args := [.int .i64 a0, .int .i64 a1, .int .i64 a2]) Tryz.noNG Tryz.mixed Tryz.func50 h (by kernel_rfl)
def ref12_Load.pre (a0_0 : Int) (a0_1 : Int) (a0_2 : Int) (a0_3 : Int) (a0_4 : Int) (a0_5 : Sl) (a0_6 : Sl) (a0_7 : Sl) (a1_0 : Int) (a1_1 : Int) (w : World) (R : Ending → World → Prop) : Prop :=
 ∀ w0 : World, w0 = w.alloc (.cells #[.int .i64 a0_0, .int .i64 a0_1, .int .i64 a0_2, .int .i64 a0_3, .int .i64 a0_4, .slice a0_5.a a0_5.n a0_5.c, .slice a0_6.a a0_6.n a0_6.c, .slice a0_7.a a0_7.n a0_7.c] 90) →
 ∀ w1 : World, w1 = w0.alloc (.cells #[.int .i64 a1_0, .int .i64 a1_1] 42) →
 ∀ w2 : World, w2 = w1.alloc (.cells #[.int .i64 0, .int .i64 0, .int .i64 0, .int .i64 0, .int .i64 0, .slice none 0 0, .slice none 0 0, .slice none 0 0] 90) →
 Calls Tryz.prog 122 #[.agg #[.int .i64 a1_0, .int .i64 a1_1]] w2 (fun e w3 => ∃ (x4 : Int), e = .returned (.int .i64 x4) ∧ w3.heap[w.heap.size]? = w2.heap[w.heap.size]? ∧ w3.heap[w0.heap.size]? = w2.heap[w0.heap.size]? ∧ w3.heap[w1.heap.size]? = w2.heap[w1.heap.size]? ∧
 Br ((x4 : Int) == 0)
 (∀ w5 : World, w5 = w3.setRow w1.heap.size #[.int .i64 a0_0, .int .i64 a0_1, .int .i64 a0_2, .int .i64 a0_3, .int .i64 a0_4, .slice a0_5.a a0_5.n a0_5.c, .slice a0_6.a a0_6.n a0_6.c, .slice a0_7.a a0_7.n a0_7.c] →
 R (.returned (.tuple #[.agg #[.int .i64 a0_0, .int .i64 a0_1, .int .i64 a0_2, .int .i64 a0_3, .int .i64 a0_4, .slice a0_5.a a0_5.n a0_5.c, .slice a0_6.a a0_6.n a0_6.c, .slice a0_7.a a0_7.n a0_7.c], .int .i64 5])) w5)
 (Calls Tryz.prog n_ref12_Find #[.agg #[.int .i64 a0_0, .int .i64 a0_1, .int .i64 a0_2, .int .i64 a0_3, .int .i64 a0_4, .slice a0_5.a a0_5.n a0_5.c, .slice a0_6.a a0_6.n a0_6.c, .slice a0_7.a a0_7.n a0_7.c], .agg #[.int .i64 a1_0, .int .i64 a1_1]] w3 (fun e w6 => ∃ (x7 : Int), e = .returned (.int .i64 x7) ∧ w6.heap[w.heap.size]? = w3.heap[w.heap.size]? ∧ w6.heap[w0.heap.size]? = w3.heap[w0.heap.size]? ∧ w6.heap[w1.heap.size]? = w3.heap[w1.heap.size]? ∧
 Br (decide ((x7 : Int) ≥ 0))
 (InB a0_7.a x7 a0_7.n ∧ ∃ (x8 : Int) (x9 : Int) (s10 : Sl) (b11 : Bool) (x12 : Int), LoadL w6 (padd a0_7.a ((x7 : Int).toNat * 5)) 0 [.int .i64 x8, .int .i64 x9, .slice s10.a s10.n s10.c, .bool b11, .int .i64 x12] ∧
 ∀ w13 : World, w13 = w6.alloc (.cells #[.int .i64 0, .int .i64 0, .slice none 0 0, .bool false, .int .i64 0] 148) →
 ∀ w14 : World, w14 = w13.setRow w6.heap.size #[.int .i64 x8, .int .i64 x9, .slice s10.a s10.n s10.c, .bool b11, .int .i64 x12] →
 Calls Tryz.prog n_ref12_without #[.agg #[.int .i64 a0_0, .int .i64 a0_1, .int .i64 a0_2, .int .i64 a0_3, .int .i64 a0_4, .slice a0_5.a a0_5.n a0_5.c, .slice a0_6.a a0_6.n a0_6.c, .slice a0_7.a a0_7.n a0_7.c], .int .i64 x7] w14.drew (fun e w15 => ∃ (x16 : Int) (x17 : Int) (x18 : Int) (x19 : Int) (x20 : Int) (s21 : Sl) (s22 : Sl) (s23 : Sl), e = .returned (.agg #[.int .i64 x16, .int .i64 x17, .int .i64 x18, .int .i64 x19, .int .i64 x20, .slice s21.a s21.n s21.c, .slice s22.a s22.n s22.c, .slice s23.a s23.n s23.c]) ∧ w15.heap[w.heap.size]? = w14.drew.heap[w.heap.size]? ∧ w15.heap[w0.heap.size]? = w14.drew.heap[w0.heap.size]? ∧ w15.heap[w1.heap.size]? = w14.drew.heap[w1.heap.size]? ∧ w15.heap[w6.heap.size]? = w14.drew.heap[w6.heap.size]? ∧
 LoadL w15 (some ⟨w6.heap.size, 0, none⟩) 0 [.int .i64 x8, .int .i64 x9, .slice s10.a s10.n s10.c, .bool b11, .int .i64 x12] ∧ Calls Tryz.prog n_ref12_last #[.agg #[.int .i64 x16, .int .i64 x17, .int .i64 x18, .int .i64 x19, .int .i64 x20, .slice s21.a s21.n s21.c, .slice s22.a s22.n s22.c, .slice s23.a s23.n s23.c], .agg #[.int .i64 x8, .int .i64 x9, .slice s10.a s10.n s10.c, .bool b11, .int .i64 x12]] w15 (fun e w24 => ∃ (x25 : Int) (x26 : Int) (x27 : Int) (x28 : Int) (x29 : Int) (s30 : Sl) (s31 : Sl) (s32 : Sl), e = .returned (.agg #[.int .i64 x25, .int .i64 x26, .int .i64 x27, .int .i64 x28, .int .i64 x29, .slice s30.a s30.n s30.c, .slice s31.a s31.n s31.c, .slice s32.a s32.n s32.c]) ∧ w24.heap[w.heap.size]? = w15.heap[w.heap.size]? ∧ w24.heap[w0.heap.size]? = w15.heap[w0.heap.size]? ∧ w24.heap[w1.heap.size]? = w15.heap[w1.heap.size]? ∧ w24.heap[w6.heap.size]? = w15.heap[w6.heap.size]? ∧
 ∀ w33 : World, w33 = w24.setRow w1.heap.size #[.int .i64 x25, .int .i64 x26, .int .i64 x27, .int .i64 x28, .int .i64 x29, .slice s30.a s30.n s30.c, .slice s31.a s31.n s31.c, .slice s32.a s32.n s32.c] →
 R (.returned (.tuple #[.agg #[.int .i64 x25, .int .i64 x26, .int .i64 x27, .int .i64 x28, .int .i64 x29, .slice s30.a s30.n s30.c, .slice s31.a s31.n s31.c, .slice s32.a s32.n s32.c], .int .i64 0])) w33)))
 (Br (decide ((((a0_7.n : Nat) : Int) : Int) ≥ a0_1))
 (∃ I34 : Nat → Int → Int → World → Prop,
 (∃ n35, ([.int .i64 a0_0, .int .i64 a0_1, .int .i64 a0_2, .int .i64 a0_3, .int .i64 a0_4, .slice a0_5.a a0_5.n a0_5.c, .slice a0_6.a a0_6.n a0_6.c, .slice a0_7.a a0_7.n a0_7.c] : List Value) = [.int .i64 a0_0, .int .i64 a0_1, .int .i64 a0_2, .int .i64 a0_3, .int .i64 a0_4, .slice a0_5.a a0_5.n a0_5.c, .slice a0_6.a a0_6.n a0_6.c, .slice a0_7.a a0_7.n a0_7.c] ∧ ([.int .i64 a1_0, .int .i64 a1_1] : List Value) = [.int .i64 a1_0, .int .i64 a1_1] ∧ ([.int .i64 0, .int .i64 0, .int .i64 0, .int .i64 0, .int .i64 0, .slice none 0 0, .slice none 0 0, .slice none 0 0] : List Value) = [.int .i64 0, .int .i64 0, .int .i64 0, .int .i64 0, .int .i64 0, .slice none 0 0, .slice none 0 0, .slice none 0 0] ∧ I34 n35 ((IntKind.wrap .i64 (((a0_7.n : Nat) : Int) - 1))) ((-1)) w6) ∧
 ∀ (n35 : Nat) (us36 : Nat → Value) (x37 : Int) (x38 : Int) (w39 : World), I34 n35 x37 x38 w39 →
 Br (decide ((x37 : Int) ≥ 0))
 (InB a0_7.a x37 a0_7.n ∧ AndL (nnC (padd a0_7.a ((x37 : Int).toNat * 5))) (∃ (x41 : Int), ld w39 (padd (padd a0_7.a ((x37 : Int).toNat * 5)) 4) = some (.int .i64 x41) ∧
 Br ((x41 : Int) == 0)
 (∃ n40, n40 < n35 ∧ ([.int .i64 a0_0, .int .i64 a0_1, .int .i64 a0_2, .int .i64 a0_3, .int .i64 a0_4, .slice a0_5.a a0_5.n a0_5.c, .slice a0_6.a a0_6.n a0_6.c, .slice a0_7.a a0_7.n a0_7.c] : List Value) = [.int .i64 a0_0, .int .i64 a0_1, .int .i64 a0_2, .int .i64 a0_3, .int .i64 a0_4, .slice a0_5.a a0_5.n a0_5.c, .slice a0_6.a a0_6.n a0_6.c, .slice a0_7.a a0_7.n a0_7.c] ∧ ([.int .i64 a1_0, .int .i64 a1_1] : List Value) = [.int .i64 a1_0, .int .i64 a1_1] ∧ ([.int .i64 0, .int .i64 0, .int .i64 0, .int .i64 0, .int .i64 0, .slice none 0 0, .slice none 0 0, .slice none 0 0] : List Value) = [.int .i64 0, .int .i64 0, .int .i64 0, .int .i64 0, .int .i64 0, .slice none 0 0, .slice none 0 0, .slice none 0 0] ∧ I34 n40 ((IntKind.wrap .i64 (x37 - 1))) (x37) w39)
 (∃ n40, n40 < n35 ∧ ([.int .i64 a0_0, .int .i64 a0_1, .int .i64 a0_2, .int .i64 a0_3, .int .i64 a0_4, .slice a0_5.a a0_5.n a0_5.c, .slice a0_6.a a0_6.n a0_6.c, .slice a0_7.a a0_7.n a0_7.c] : List Value) = [.int .i64 a0_0, .int .i64 a0_1, .int .i64 a0_2, .int .i64 a0_3, .int .i64 a0_4, .slice a0_5.a a0_5.n a0_5.c, .slice a0_6.a a0_6.n a0_6.c, .slice a0_7.a a0_7.n a0_7.c] ∧ ([.int .i64 a1_0, .int .i64 a1_1] : List Value) = [.int .i64 a1_0, .int .i64 a1_1] ∧ ([.int .i64 0, .int .i64 0, .int .i64 0, .int .i64 0, .int .i64 0, .slice none 0 0, .slice none 0 0, .slice none 0 0] : List Value) = [.int .i64 0, .int .i64 0, .int .i64 0, .int .i64 0, .int .i64 0, .slice none 0 0, .slice none 0 0, .slice none 0 0] ∧ I34 n40 ((IntKind.wrap .i64 (x37 - 1))) (x38) w39)))
 (Br (decide ((x38 : Int) < 0))
 (∀ w42 : World, w42 = w39.setRow w1.heap.size #[.int .i64 a0_0, .int .i64 a0_1, .int .i64 a0_2, .int .i64 a0_3, .int .i64 a0_4, .slice a0_5.a a0_5.n a0_5.c, .slice a0_6.a a0_6.n a0_6.c, .slice a0_7.a a0_7.n a0_7.c] →
 R (.returned (.tuple #[.agg #[.int .i64 a0_0, .int .i64 a0_1, .int .i64 a0_2, .int .i64 a0_3, .int .i64 a0_4, .slice a0_5.a a0_5.n a0_5.c, .slice a0_6.a a0_6.n a0_6.c, .slice a0_7.a a0_7.n a0_7.c], .int .i64 8])) w42)
 (Calls Tryz.prog n_ref12_save #[.agg #[.int .i64 a0_0, .int .i64 a0_1, .int .i64 a0_2, .int .i64 a0_3, .int .i64 a0_4, .slice a0_5.a a0_5.n a0_5.c, .slice a0_6.a a0_6.n a0_6.c, .slice a0_7.a a0_7.n a0_7.c], .int .i64 x38] w39 (fun e w43 => ∃ (x44 : Int) (x45 : Int) (x46 : Int) (x47 : Int) (x48 : Int) (s49 : Sl) (s50 : Sl) (s51 : Sl) (x52 : Int), e = .returned (.tuple #[.agg #[.int .i64 x44, .int .i64 x45, .int .i64 x46, .int .i64 x47, .int .i64 x48, .slice s49.a s49.n s49.c, .slice s50.a s50.n s50.c, .slice s51.a s51.n s51.c], .int .i64 x52]) ∧ w43.heap[w.heap.size]? = w39.heap[w.heap.size]? ∧ w43.heap[w0.heap.size]? = w39.heap[w0.heap.size]? ∧ w43.heap[w1.heap.size]? = w39.heap[w1.heap.size]? ∧
 ∀ w53 : World, w53 = w43.alloc (.cells #[.int .i64 0, .int .i64 0, .int .i64 0, .int .i64 0, .int .i64 0, .slice none 0 0, .slice none 0 0, .slice none 0 0] 90) →
 ∀ w54 : World, w54 = w53.setRow w43.heap.size #[.int .i64 x44, .int .i64 x45, .int .i64 x46, .int .i64 x47, .int .i64 x48, .slice s49.a s49.n s49.c, .slice s50.a s50.n s50.c, .slice s51.a s51.n s51.c] →
 Br ((x52 : Int) != 0)
 (∀ w55 : World, w55 = w54.setRow w1.heap.size #[.int .i64 x44, .int .i64 x45, .int .i64 x46, .int .i64 x47, .int .i64 x48, .slice s49.a s49.n s49.c, .slice s50.a s50.n s50.c, .slice s51.a s51.n s51.c] →
 R (.returned (.tuple #[.agg #[.int .i64 x44, .int .i64 x45, .int .i64 x46, .int .i64 x47, .int .i64 x48, .slice s49.a s49.n s49.c, .slice s50.a s50.n s50.c, .slice s51.a s51.n s51.c], .int .i64 x52])) w55)
 (Calls Tryz.prog n_ref12_without #[.agg #[.int .i64 x44, .int .i64 x45, .int .i64 x46, .int .i64 x47, .int .i64 x48, .slice s49.a s49.n s49.c, .slice s50.a s50.n s50.c, .slice s51.a s51.n s51.c], .int .i64 x38] w54 (fun e w56 => ∃ (x57 : Int) (x58 : Int) (x59 : Int) (x60 : Int) (x61 : Int) (s62 : Sl) (s63 : Sl) (s64 : Sl), e = .returned (.agg #[.int .i64 x57, .int .i64 x58, .int .i64 x59, .int .i64 x60, .int .i64 x61, .slice s62.a s62.n s62.c, .slice s63.a s63.n s63.c, .slice s64.a s64.n s64.c]) ∧ w56.heap[w.heap.size]? = w54.heap[w.heap.size]? ∧ w56.heap[w0.heap.size]? = w54.heap[w0.heap.size]? ∧ w56.heap[w1.heap.size]? = w54.heap[w1.heap.size]? ∧ w56.heap[w43.heap.size]? = w54.heap[w43.heap.size]? ∧
 ∀ w65 : World, w65 = w56.setRow w.heap.size #[.int .i64 x57, .int .i64 x58, .int .i64 x59, .int .i64 x60, .int .i64 x61, .slice s62.a s62.n s62.c, .slice s63.a s63.n s63.c, .slice s64.a s64.n s64.c] →
 Calls Tryz.prog n_ref09_Load #[.agg #[.int .i64 x59, .int .i64 x60, .int .i64 x61, .slice s62.a s62.n s62.c, .slice s63.a s63.n s63.c], .int .i64 x4] w65 (fun e w66 => ∃ (s67 : Sl) (x68 : Int) (b69 : Bool), e = .returned (.tuple #[.slice s67.a s67.n s67.c, .int .i64 x68, .bool b69]) ∧ w66.heap[w.heap.size]? = w65.heap[w.heap.size]? ∧ w66.heap[w0.heap.size]? = w65.heap[w0.heap.size]? ∧ w66.heap[w1.heap.size]? = w65.heap[w1.heap.size]? ∧ w66.heap[w43.heap.size]? = w65.heap[w43.heap.size]? ∧
 Calls Tryz.prog 126 #[.agg #[.int .i64 a1_0, .int .i64 a1_1], .slice s67.a s67.n s67.c] w66 (fun e w70 => ∃ (x71 : Int) (x72 : Int) (s73 : Sl) (x74 : Int), e = .returned (.tuple #[.agg #[.int .i64 x71, .int .i64 x72, .slice s73.a s73.n s73.c], .int .i64 x74]) ∧ w70.heap[w.heap.size]? = w66.heap[w.heap.size]? ∧ w70.heap[w0.heap.size]? = w66.heap[w0.heap.size]? ∧ w70.heap[w1.heap.size]? = w66.heap[w1.heap.size]? ∧ w70.heap[w43.heap.size]? = w66.heap[w43.heap.size]? ∧
 ∀ w75 : World, w75 = w70.alloc (.cells #[.int .i64 0, .int .i64 0, .slice none 0 0] 146) →
 ∀ w76 : World, w76 = w75.setRow w70.heap.size #[.int .i64 x71, .int .i64 x72, .slice s73.a s73.n s73.c] →
 Br ((x74 : Int) != 0)
 (Calls Tryz.prog 127 #[.int .i64 x57, .agg #[.int .i64 a1_0, .int .i64 a1_1]] w76 (fun e w77 => ∃ (x78 : Int) (x79 : Int) (s80 : Sl), e = .returned (.agg #[.int .i64 x78, .int .i64 x79, .slice s80.a s80.n s80.c]) ∧ w77.heap[w.heap.size]? = w76.heap[w.heap.size]? ∧ w77.heap[w0.heap.size]? = w76.heap[w0.heap.size]? ∧ w77.heap[w1.heap.size]? = w76.heap[w1.heap.size]? ∧ w77.heap[w43.heap.size]? = w76.heap[w43.heap.size]? ∧ w77.heap[w70.heap.size]? = w76.heap[w70.heap.size]? ∧
 ∀ w81 : World, w81 = w77.setRow w70.heap.size #[.int .i64 x78, .int .i64 x79, .slice s80.a s80.n s80.c] →
 Calls Tryz.prog n_ref12_last #[.agg #[.int .i64 x57, .int .i64 x58, .int .i64 x59, .int .i64 x60, .int .i64 x61, .slice s62.a s62.n s62.c, .slice s63.a s63.n s63.c, .slice s64.a s64.n s64.c], .agg #[.int .i64 x78, .int .i64 x79, .slice s80.a s80.n s80.c, .bool false, .int .i64 0]] w81 (fun e w82 => ∃ (x83 : Int) (x84 : Int) (x85 : Int) (x86 : Int) (x87 : Int) (s88 : Sl) (s89 : Sl) (s90 : Sl), e = .returned (.agg #[.int .i64 x83, .int .i64 x84, .int .i64 x85, .int .i64 x86, .int .i64 x87, .slice s88.a s88.n s88.c, .slice s89.a s89.n s89.c, .slice s90.a s90.n s90.c]) ∧ w82.heap[w.heap.size]? = w81.heap[w.heap.size]? ∧ w82.heap[w0.heap.size]? = w81.heap[w0.heap.size]? ∧ w82.heap[w1.heap.size]? = w81.heap[w1.heap.size]? ∧ w82.heap[w43.heap.size]? = w81.heap[w43.heap.size]? ∧ w82.heap[w70.heap.size]? = w81.heap[w70.heap.size]? ∧
 ∀ w91 : World, w91 = w82.setRow w1.heap.size #[.int .i64 x83, .int .i64 x84, .int .i64 x85, .int .i64 x86, .int .i64 x87, .slice s88.a s88.n s88.c, .slice s89.a s89.n s89.c, .slice s90.a s90.n s90.c] →
 R (.returned (.tuple #[.agg #[.int .i64 x83, .int .i64 x84, .int .i64 x85, .int .i64 x86, .int .i64 x87, .slice s88.a s88.n s88.c, .slice s89.a s89.n s89.c, .slice s90.a s90.n s90.c], .int .i64 0])) w91)))
 (Calls Tryz.prog n_ref12_last #[.agg #[.int .i64 x57, .int .i64 x58, .int .i64 x59, .int .i64 x60, .int .i64 x61, .slice s62.a s62.n s62.c, .slice s63.a s63.n s63.c, .slice s64.a s64.n s64.c], .agg #[.int .i64 x71, .int .i64 x72, .slice s73.a s73.n s73.c, .bool false, .int .i64 0]] w76 (fun e w92 => ∃ (x93 : Int) (x94 : Int) (x95 : Int) (x96 : Int) (x97 : Int) (s98 : Sl) (s99 : Sl) (s100 : Sl), e = .returned (.agg #[.int .i64 x93, .int .i64 x94, .int .i64 x95, .int .i64 x96, .int .i64 x97, .slice s98.a s98.n s98.c, .slice s99.a s99.n s99.c, .slice s100.a s100.n s100.c]) ∧ w92.heap[w.heap.size]? = w76.heap[w.heap.size]? ∧ w92.heap[w0.heap.size]? = w76.heap[w0.heap.size]? ∧ w92.heap[w1.heap.size]? = w76.heap[w1.heap.size]? ∧ w92.heap[w43.heap.size]? = w76.heap[w43.heap.size]? ∧ w92.heap[w70.heap.size]? = w76.heap[w70.heap.size]? ∧
 ∀ w101 : World, w101 = w92.setRow w1.heap.size #[.int .i64 x93, .int .i64 x94, .int .i64 x95, .int .i64 x96, .int .i64 x97, .slice s98.a s98.n s98.c, .slice s99.a s99.n s99.c, .slice s100.a s100.n s100.c] →
 R (.returned (.tuple #[.agg #[.int .i64 x93, .int .i64 x94, .int .i64 x95, .int .i64 x96, .int .i64 x97, .slice s98.a s98.n s98.c, .slice s99.a s99.n s99.c, .slice s100.a s100.n s100.c], .int .i64 0])) w101))))))))))
 (Calls Tryz.prog n_ref09_Load #[.agg #[.int .i64 a0_2, .int .i64 a0_3, .int .i64 a0_4, .slice a0_5.a a0_5.n a0_5.c, .slice a0_6.a a0_6.n a0_6.c], .int .i64 x4] w6 (fun e w102 => ∃ (s103 : Sl) (x104 : Int) (b105 : Bool), e = .returned (.tuple #[.slice s103.a s103.n s103.c, .int .i64 x104, .bool b105]) ∧ w102.heap[w.heap.size]? = w6.heap[w.heap.size]? ∧ w102.heap[w0.heap.size]? = w6.heap[w0.heap.size]? ∧ w102.heap[w1.heap.size]? = w6.heap[w1.heap.size]? ∧
 Calls Tryz.prog 126 #[.agg #[.int .i64 a1_0, .int .i64 a1_1], .slice s103.a s103.n s103.c] w102 (fun e w106 => ∃ (x107 : Int) (x108 : Int) (s109 : Sl) (x110 : Int), e = .returned (.tuple #[.agg #[.int .i64 x107, .int .i64 x108, .slice s109.a s109.n s109.c], .int .i64 x110]) ∧ w106.heap[w.heap.size]? = w102.heap[w.heap.size]? ∧ w106.heap[w0.heap.size]? = w102.heap[w0.heap.size]? ∧ w106.heap[w1.heap.size]? = w102.heap[w1.heap.size]? ∧
 ∀ w111 : World, w111 = w106.alloc (.cells #[.int .i64 0, .int .i64 0, .slice none 0 0] 146) →
 ∀ w112 : World, w112 = w111.setRow w106.heap.size #[.int .i64 x107, .int .i64 x108, .slice s109.a s109.n s109.c] →
 Br ((x110 : Int) != 0)
 (Calls Tryz.prog 127 #[.int .i64 a0_0, .agg #[.int .i64 a1_0, .int .i64 a1_1]] w112 (fun e w113 => ∃ (x114 : Int) (x115 : Int) (s116 : Sl), e = .returned (.agg #[.int .i64 x114, .int .i64 x115, .slice s116.a s116.n s116.c]) ∧ w113.heap[w.heap.size]? = w112.heap[w.heap.size]? ∧ w113.heap[w0.heap.size]? = w112.heap[w0.heap.size]? ∧ w113.heap[w1.heap.size]? = w112.heap[w1.heap.size]? ∧ w113.heap[w106.heap.size]? = w112.heap[w106.heap.size]? ∧
 ∀ w117 : World, w117 = w113.setRow w106.heap.size #[.int .i64 x114, .int .i64 x115, .slice s116.a s116.n s116.c] →
 Calls Tryz.prog n_ref12_last #[.agg #[.int .i64 a0_0, .int .i64 a0_1, .int .i64 a0_2, .int .i64 a0_3, .int .i64 a0_4, .slice a0_5.a a0_5.n a0_5.c, .slice a0_6.a a0_6.n a0_6.c, .slice a0_7.a a0_7.n a0_7.c], .agg #[.int .i64 x114, .int .i64 x115, .slice s116.a s116.n s116.c, .bool false, .int .i64 0]] w117 (fun e w118 => ∃ (x119 : Int) (x120 : Int) (x121 : Int) (x122 : Int) (x123 : Int) (s124 : Sl) (s125 : Sl) (s126 : Sl), e = .returned (.agg #[.int .i64 x119, .int .i64 x120, .int .i64 x121, .int .i64 x122, .int .i64 x123, .slice s124.a s124.n s124.c, .slice s125.a s125.n s125.c, .slice s126.a s126.n s126.c]) ∧ w118.heap[w.heap.size]? = w117.heap[w.heap.size]? ∧ w118.heap[w0.heap.size]? = w117.heap[w0.heap.size]? ∧ w118.heap[w1.heap.size]? = w117.heap[w1.heap.size]? ∧ w118.heap[w106.heap.size]? = w117.heap[w106.heap.size]? ∧
 ∀ w127 : World, w127 = w118.setRow w1.heap.size #[.int .i64 x119, .int .i64 x120, .int .i64 x121, .int .i64 x122, .int .i64 x123, .slice s124.a s124.n s124.c, .slice s125.a s125.n s125.c, .slice s126.a s126.n s126.c] →
 R (.returned (.tuple #[.agg #[.int .i64 x119, .int .i64 x120, .int .i64 x121, .int .i64 x122, .int .i64 x123, .slice s124.a s124.n s124.c, .slice s125.a s125.n s125.c, .slice s126.a s126.n s126.c], .int .i64 0])) w127)))
 (Calls Tryz.prog n_ref12_last #[.agg #[.int .i64 a0_0, .int .i64 a0_1, .int .i64 a0_2, .int .i64 a0_3, .int .i64 a0_4, .slice a0_5.a a0_5.n a0_5.c, .slice a0_6.a a0_6.n a0_6.c, .slice a0_7.a a0_7.n a0_7.c], .agg #[.int .i64 x107, .int .i64 x108, .slice s109.a s109.n s109.c, .bool false, .int .i64 0]] w112 (fun e w128 => ∃ (x129 : Int) (x130 : Int) (x131 : Int) (x132 : Int) (x133 : Int) (s134 : Sl) (s135 : Sl) (s136 : Sl), e = .returned (.agg #[.int .i64 x129, .int .i64 x130, .int .i64 x131, .int .i64 x132, .int .i64 x133, .slice s134.a s134.n s134.c, .slice s135.a s135.n s135.c, .slice s136.a s136.n s136.c]) ∧ w128.heap[w.heap.size]? = w112.heap[w.heap.size]? ∧ w128.heap[w0.heap.size]? = w112.heap[w0.heap.size]? ∧ w128.heap[w1.heap.size]? = w112.heap[w1.heap.size]? ∧ w128.heap[w106.heap.size]? = w112.heap[w106.heap.size]? ∧
 ∀ w137 : World, w137 = w128.setRow w1.heap.size #[.int .i64 x129, .int .i64 x130, .int .i64 x131, .int .i64 x132, .int .i64 x133, .slice s134.a s134.n s134.c, .slice s135.a s135.n s135.c, .slice s136.a s136.n s136.c] →
 R (.returned (.tuple #[.agg #[.int .i64 x129, .int .i64 x130, .int .i64 x131, .int .i64 x132, .int .i64 x133, .slice s134.a s134.n s134.c, .slice s135.a s135.n s135.c, .slice s136.a s136.n s136.c], .int .i64 0])) w137)))))))))
theorem ref12_Load.vc {a0_0 a0_1 a0_2 a0_3 a0_4 a0_5 a0_6 a0_7 a1_0 a1_1 w} {R : Ending → World → Prop} (h : ref12_Load.pre a0_0 a0_1 a0_2 a0_3 a0_4 a0_5 a0_6 a0_7 a1_0 a1_1 w R) : Calls Tryz.prog n_ref12_Load #[.agg #[.int .i64 a0_0, .int .i64 a0_1, .int .i64 a0_2, .int .i64 a0_3, .int .i64 a0_4, .slice a0_5.a a0_5.n a0_5.c, .slice a0_6.a a0_6.n a0_6.c, .slice a0_7.a a0_7.n a0_7.c], .agg #[.int .i64 a1_0, .int .i64 a1_1]] w R :=
 calls_of_eq (an := ⟨[(11, ⟨[(10, .int .i64), (9, .int .i64)], [], []⟩)], [], []⟩) (args := [.agg #[.int .i64 a0_0, .int .i64 a0_1, .int .i64 a0_2, .int .i64 a0_3, .int .i64 a0_4, .slice a0_5.a a0_5.n a0_5.c, .slice a0_6.a a0_6.n a0_6.c, .slice a0_7.a a0_7.n a0_7.c], .agg #[.int .i64 a1_0, .int .i64 a1_1]]) Tryz.noNG Tryz.mixed Tryz.func78 h (by kernel_rfl)
def ref12_Unload.pre (a0_0 : Int) (a0_1 : Int) (a0_2 : Int) (a0_3 : Int) (a0_4 : Int) (a0_5 : Sl) (a0_6 : Sl) (a0_7 : Sl) (a1_0 : Int) (a1_1 : Int) (w : World) (R : Ending → World → Prop) : Prop :=
 ∀ w0 : World, w0 = w.alloc (.cells #[.int .i64 a0_0, .int .i64 a0_1, .int .i64 a0_2, .int .i64 a0_3, .int .i64 a0_4, .slice a0_5.a a0_5.n a0_5.c, .slice a0_6.a a0_6.n a0_6.c, .slice a0_7.a a0_7.n a0_7.c] 90) →
 ∀ w1 : World, w1 = w0.alloc (.cells #[.int .i64 a1_0, .int .i64 a1_1] 42) →
 ∀ w2 : World, w2 = w1.alloc (.cells #[.int .i64 0, .int .i64 0, .int .i64 0, .int .i64 0, .int .i64 0, .slice none 0 0, .slice none 0 0, .slice none 0 0] 90) →
 Calls Tryz.prog n_ref12_Find #[.agg #[.int .i64 a0_0, .int .i64 a0_1, .int .i64 a0_2, .int .i64 a0_3, .int .i64 a0_4, .slice a0_5.a a0_5.n a0_5.c, .slice a0_6.a a0_6.n a0_6.c, .slice a0_7.a a0_7.n a0_7.c], .agg #[.int .i64 a1_0, .int .i64 a1_1]] w2 (fun e w3 => ∃ (x4 : Int), e = .returned (.int .i64 x4) ∧ w3.heap[w.heap.size]? = w2.heap[w.heap.size]? ∧ w3.heap[w0.heap.size]? = w2.heap[w0.heap.size]? ∧ w3.heap[w1.heap.size]? = w2.heap[w1.heap.size]? ∧
 Br (decide ((x4 : Int) < 0))
 (∀ w5 : World, w5 = w3.setRow w1.heap.size #[.int .i64 a0_0, .int .i64 a0_1, .int .i64 a0_2, .int .i64 a0_3, .int .i64 a0_4, .slice a0_5.a a0_5.n a0_5.c, .slice a0_6.a a0_6.n a0_6.c, .slice a0_7.a a0_7.n a0_7.c] →
 R (.returned (.tuple #[.agg #[.int .i64 a0_0, .int .i64 a0_1, .int .i64 a0_2, .int .i64 a0_3, .int .i64 a0_4, .slice a0_5.a a0_5.n a0_5.c, .slice a0_6.a a0_6.n a0_6.c, .slice a0_7.a a0_7.n a0_7.c], .int .i64 6])) w5)
 (InB a0_7.a x4 a0_7.n ∧ AndL (nnC (padd a0_7.a ((x4 : Int).toNat * 5))) (∃ (x6 : Int), ld w3 (padd (padd a0_7.a ((x4 : Int).toNat * 5)) 4) = some (.int .i64 x6) ∧
 Br (decide ((x6 : Int) > 0))
 (∀ w7 : World, w7 = w3.setRow w1.heap.size #[.int .i64 a0_0, .int .i64 a0_1, .int .i64 a0_2, .int .i64 a0_3, .int .i64 a0_4, .slice a0_5.a a0_5.n a0_5.c, .slice a0_6.a a0_6.n a0_6.c, .slice a0_7.a a0_7.n a0_7.c] →
 R (.returned (.tuple #[.agg #[.int .i64 a0_0, .int .i64 a0_1, .int .i64 a0_2, .int .i64 a0_3, .int .i64 a0_4, .slice a0_5.a a0_5.n a0_5.c, .slice a0_6.a a0_6.n a0_6.c, .slice a0_7.a a0_7.n a0_7.c], .int .i64 10])) w7)
 (Calls Tryz.prog n_ref12_save #[.agg #[.int .i64 a0_0, .int .i64 a0_1, .int .i64 a0_2, .int .i64 a0_3, .int .i64 a0_4, .slice a0_5.a a0_5.n a0_5.c, .slice a0_6.a a0_6.n a0_6.c, .slice a0_7.a a0_7.n a0_7.c], .int .i64 x4] w3 (fun e w8 => ∃ (x9 : Int) (x10 : Int) (x11 : Int) (x12 : Int) (x13 : Int) (s14 : Sl) (s15 : Sl) (s16 : Sl) (x17 : Int), e = .returned (.tuple #[.agg #[.int .i64 x9, .int .i64 x10, .int .i64 x11, .int .i64 x12, .int .i64 x13, .slice s14.a s14.n s14.c, .slice s15.a s15.n s15.c, .slice s16.a s16.n s16.c], .int .i64 x17]) ∧ w8.heap[w.heap.size]? = w3.heap[w.heap.size]? ∧ w8.heap[w0.heap.size]? = w3.heap[w0.heap.size]? ∧ w8.heap[w1.heap.size]? = w3.heap[w1.heap.size]? ∧
 ∀ w18 : World, w18 = w8.alloc (.cells #[.int .i64 0, .int .i64 0, .int .i64 0, .int .i64 0, .int .i64 0, .slice none 0 0, .slice none 0 0, .slice none 0 0] 90) →
 ∀ w19 : World, w19 = w18.setRow w8.heap.size #[.int .i64 x9, .int .i64 x10, .int .i64 x11, .int .i64 x12, .int .i64 x13, .slice s14.a s14.n s14.c, .slice s15.a s15.n s15.c, .slice s16.a s16.n s16.c] →
 Br ((x17 : Int) != 0)
 (∀ w20 : World, w20 = w19.setRow w1.heap.size #[.int .i64 x9, .int .i64 x10, .int .i64 x11, .int .i64 x12, .int .i64 x13, .slice s14.a s14.n s14.c, .slice s15.a s15.n s15.c, .slice s16.a s16.n s16.c] →
 R (.returned (.tuple #[.agg #[.int .i64 x9, .int .i64 x10, .int .i64 x11, .int .i64 x12, .int .i64 x13, .slice s14.a s14.n s14.c, .slice s15.a s15.n s15.c, .slice s16.a s16.n s16.c], .int .i64 x17])) w20)
 (Calls Tryz.prog n_ref12_without #[.agg #[.int .i64 x9, .int .i64 x10, .int .i64 x11, .int .i64 x12, .int .i64 x13, .slice s14.a s14.n s14.c, .slice s15.a s15.n s15.c, .slice s16.a s16.n s16.c], .int .i64 x4] w19 (fun e w21 => ∃ (x22 : Int) (x23 : Int) (x24 : Int) (x25 : Int) (x26 : Int) (s27 : Sl) (s28 : Sl) (s29 : Sl), e = .returned (.agg #[.int .i64 x22, .int .i64 x23, .int .i64 x24, .int .i64 x25, .int .i64 x26, .slice s27.a s27.n s27.c, .slice s28.a s28.n s28.c, .slice s29.a s29.n s29.c]) ∧ w21.heap[w.heap.size]? = w19.heap[w.heap.size]? ∧ w21.heap[w0.heap.size]? = w19.heap[w0.heap.size]? ∧ w21.heap[w1.heap.size]? = w19.heap[w1.heap.size]? ∧ w21.heap[w8.heap.size]? = w19.heap[w8.heap.size]? ∧
 ∀ w30 : World, w30 = w21.setRow w1.heap.size #[.int .i64 x22, .int .i64 x23, .int .i64 x24, .int .i64 x25, .int .i64 x26, .slice s27.a s27.n s27.c, .slice s28.a s28.n s28.c, .slice s29.a s29.n s29.c] →
 R (.returned (.tuple #[.agg #[.int .i64 x22, .int .i64 x23, .int .i64 x24, .int .i64 x25, .int .i64 x26, .slice s27.a s27.n s27.c, .slice s28.a s28.n s28.c, .slice s29.a s29.n s29.c], .int .i64 0])) w30)))))))
theorem ref12_Unload.vc {a0_0 a0_1 a0_2 a0_3 a0_4 a0_5 a0_6 a0_7 a1_0 a1_1 w} {R : Ending → World → Prop} (h : ref12_Unload.pre a0_0 a0_1 a0_2 a0_3 a0_4 a0_5 a0_6 a0_7 a1_0 a1_1 w R) : Calls Tryz.prog n_ref12_Unload #[.agg #[.int .i64 a0_0, .int .i64 a0_1, .int .i64 a0_2, .int .i64 a0_3, .int .i64 a0_4, .slice a0_5.a a0_5.n a0_5.c, .slice a0_6.a a0_6.n a0_6.c, .slice a0_7.a a0_7.n a0_7.c], .agg #[.int .i64 a1_0, .int .i64 a1_1]] w R :=
 calls_of_eq (an := ⟨[], [], []⟩) (args := [.agg #[.int .i64 a0_0, .int .i64 a0_1, .int .i64 a0_2, .int .i64 a0_3, .int .i64 a0_4, .slice a0_5.a a0_5.n a0_5.c, .slice a0_6.a a0_6.n a0_6.c, .slice a0_7.a a0_7.n a0_7.c], .agg #[.int .i64 a1_0, .int .i64 a1_1]]) Tryz.noNG Tryz.mixed Tryz.func79 h (by kernel_rfl)
def ref12_Find.pre (a0_0 : Int) (a0_1 : Int) (a0_2 : Int) (a0_3 : Int) (a0_4 : Int) (a0_5 : Sl) (a0_6 : Sl) (a0_7 : Sl) (a1_0 : Int) (a1_1 : Int) (w : World) (R : Ending → World → Prop) : Prop :=
 ∀ w0 : World, w0 = w.alloc (.cells #[.int .i64 a0_0, .int .i64 a0_1, .int .i64 a0_2, .int .i64 a0_3, .int .i64 a0_4, .slice a0_5.a a0_5.n a0_5.c, .slice a0_6.a a0_6.n a0_6.c, .slice a0_7.a a0_7.n a0_7.c] 90) →
 ∀ w1 : World, w1 = w0.alloc (.cells #[.int .i64 a1_0, .int .i64 a1_1] 42) →
 ∃ I2 : Nat → Int → World → Prop,
 (∃ n3, ([.int .i64 a0_0, .int .i64 a0_1, .int .i64 a0_2, .int .i64 a0_3, .int .i64 a0_4, .slice a0_5.a a0_5.n a0_5.c, .slice a0_6.a a0_6.n a0_6.c, .slice a0_7.a a0_7.n a0_7.c] : List Value) = [.int .i64 a0_0, .int .i64 a0_1, .int .i64 a0_2, .int .i64 a0_3, .int .i64 a0_4, .slice a0_5.a a0_5.n a0_5.c, .slice a0_6.a a0_6.n a0_6.c, .slice a0_7.a a0_7.n a0_7.c] ∧ ([.int .i64 a1_0, .int .i64 a1_1] : List Value) = [.int .i64 a1_0, .int .i64 a1_1] ∧ I2 n3 (0) w1) ∧
 ∀ (n3 : Nat) (us4 : Nat → Value) (x5 : Int) (w6 : World), I2 n3 x5 w6 →
 Br (decide ((x5 : Int) < ((a0_7.n : Nat) : Int)))
 (InB a0_7.a x5 a0_7.n ∧ AndL (nnC (padd a0_7.a ((x5 : Int).toNat * 5))) (AndL (nnC (padd (padd a0_7.a ((x5 : Int).toNat * 5)) 0)) (∃ (x8 : Int) (x9 : Int), LoadL w6.drew (padd (padd (padd a0_7.a ((x5 : Int).toNat * 5)) 0) 0) 0 [.int .i64 x8, .int .i64 x9] ∧
 Br (((x8 : Int) == a1_0) && ((x9 : Int) == a1_1))
 (R (.returned (.int .i64 x5)) w6.drew)
 (∃ n7, n7 < n3 ∧ ([.int .i64 a0_0, .int .i64 a0_1, .int .i64 a0_2, .int .i64 a0_3, .int .i64 a0_4, .slice a0_5.a a0_5.n a0_5.c, .slice a0_6.a a0_6.n a0_6.c, .slice a0_7.a a0_7.n a0_7.c] : List Value) = [.int .i64 a0_0, .int .i64 a0_1, .int .i64 a0_2, .int .i64 a0_3, .int .i64 a0_4, .slice a0_5.a a0_5.n a0_5.c, .slice a0_6.a a0_6.n a0_6.c, .slice a0_7.a a0_7.n a0_7.c] ∧ ([.int .i64 a1_0, .int .i64 a1_1] : List Value) = [.int .i64 a1_0, .int .i64 a1_1] ∧ I2 n7 ((IntKind.wrap .i64 (x5 + 1))) w6.drew))))
 (R (.returned (.int .i64 (-1))) w6)
theorem ref12_Find.vc {a0_0 a0_1 a0_2 a0_3 a0_4 a0_5 a0_6 a0_7 a1_0 a1_1 w} {R : Ending → World → Prop} (h : ref12_Find.pre a0_0 a0_1 a0_2 a0_3 a0_4 a0_5 a0_6 a0_7 a1_0 a1_1 w R) : Calls Tryz.prog n_ref12_Find #[.agg #[.int .i64 a0_0, .int .i64 a0_1, .int .i64 a0_2, .int .i64 a0_3, .int .i64 a0_4, .slice a0_5.a a0_5.n a0_5.c, .slice a0_6.a a0_6.n a0_6.c, .slice a0_7.a a0_7.n a0_7.c], .agg #[.int .i64 a1_0, .int .i64 a1_1]] w R :=
 calls_of_eq (an := ⟨[(2, ⟨[(5, .int .i64)], [], []⟩)], [], []⟩) (args := [.agg #[.int .i64 a0_0, .int .i64 a0_1, .int .i64 a0_2, .int .i64 a0_3, .int .i64 a0_4, .slice a0_5.a a0_5.n a0_5.c, .slice a0_6.a a0_6.n a0_6.c, .slice a0_7.a a0_7.n a0_7.c], .agg #[.int .i64 a1_0, .int .i64 a1_1]]) Tryz.noNG Tryz.mixed Tryz.func82 h (by kernel_rfl)
def ref08_New.pre (a0 : Int) (w : World) (R : Ending → World → Prop) : Prop :=
 ∀ w0 : World, w0 = w.alloc (.cells #[.int .i64 0, .int .i64 0, .int .i64 0, .slice none 0 0, .slice none 0 0] 87) →
 ∀ w1 : World, w1 = w0.setRow w.heap.size #[.int .i64 (if 1048576 < (if 0 > a0 then 0 else a0) then 1048576 else (if 0 > a0 then 0 else a0)), .int .i64 0, .int .i64 0, .slice none 0 0, .slice none 0 0] →
 R (.returned (.agg #[.int .i64 (if 1048576 < (if 0 > a0 then 0 else a0) then 1048576 else (if 0 > a0 then 0 else a0)), .int .i64 0, .int .i64 0, .slice none 0 0, .slice none 0 0])) w1
theorem ref08_New.vc {a0 w} {R : Ending → World → Prop} (h : ref08_New.pre a0 w R) : Calls Tryz.prog n_ref08_New #[.int .i64 a0] w R :=
 calls_of_eq (an := ⟨[], [], []⟩) (args := [.int .i64 a0]) Tryz.noNG Tryz.mixed Tryz.func85 h (by kernel_rfl)
def ref12_Set.pre (a0_0 : Int) (a0_1 : Int) (a0_2 : Int) (a0_3 : Int) (a0_4 : Int) (a0_5 : Sl) (a0_6 : Sl) (a0_7 : Sl) (a1_0 : Int) (a1_1 : Int) (a1_2 : Int) (a2 : Int) (w : World) (R : Ending → World → Prop) : Prop :=
 ∀ w0 : World, w0 = w.alloc (.cells #[.int .i64 a0_0, .int .i64 a0_1, .int .i64 a0_2, .int .i64 a0_3, .int .i64 a0_4, .slice a0_5.a a0_5.n a0_5.c, .slice a0_6.a a0_6.n a0_6.c, .slice a0_7.a a0_7.n a0_7.c] 90) →
 ∀ w1 : World, w1 = w0.alloc (.cells #[.int .i64 a1_0, .int .i64 a1_1, .int .i64 a1_2] 26) →
 ∀ w2 : World, w2 = w1.alloc (.cells #[.int .i64 0, .int .i64 0, .int .i64 0, .int .i64 0, .int .i64 0, .slice none 0 0, .slice none 0 0, .slice none 0 0] 90) →
 Calls Tryz.prog 42 #[.agg #[.int .i64 a1_0, .int .i64 a1_1, .int .i64 a1_2]] w2.drew (fun e w3 => ∃ (x4 : Int) (x5 : Int), e = .returned (.agg #[.int .i64 x4, .int .i64 x5]) ∧ w3.heap[w.heap.size]? = w2.drew.heap[w.heap.size]? ∧ w3.heap[w0.heap.size]? = w2.drew.heap[w0.heap.size]? ∧ w3.heap[w1.heap.size]? = w2.drew.heap[w1.heap.size]? ∧
 LoadL w3 (some ⟨w.heap.size, 0, none⟩) 0 [.int .i64 a0_0, .int .i64 a0_1, .int .i64 a0_2, .int .i64 a0_3, .int .i64 a0_4, .slice a0_5.a a0_5.n a0_5.c, .slice a0_6.a a0_6.n a0_6.c, .slice a0_7.a a0_7.n a0_7.c] ∧ Calls Tryz.prog n_ref12_Find #[.agg #[.int .i64 a0_0, .int .i64 a0_1, .int .i64 a0_2, .int .i64 a0_3, .int .i64 a0_4, .slice a0_5.a a0_5.n a0_5.c, .slice a0_6.a a0_6.n a0_6.c, .slice a0_7.a a0_7.n a0_7.c], .agg #[.int .i64 x4, .int .i64 x5]] w3 (fun e w6 => ∃ (x7 : Int), e = .returned (.int .i64 x7) ∧ w6.heap[w.heap.size]? = w3.heap[w.heap.size]? ∧ w6.heap[w0.heap.size]? = w3.heap[w0.heap.size]? ∧ w6.heap[w1.heap.size]? = w3.heap[w1.heap.size]? ∧
 Calls Tryz.prog 130 #[.int .i64 a2] w6 (fun e w8 => ∃ (b9 : Bool), e = .returned (.bool b9) ∧ w8.heap[w.heap.size]? = w6.heap[w.heap.size]? ∧ w8.heap[w0.heap.size]? = w6.heap[w0.heap.size]? ∧ w8.heap[w1.heap.size]? = w6.heap[w1.heap.size]? ∧
 Br (decide ((x7 : Int) < 0))
 (∀ w10 : World, w10 = w8.setRow w1.heap.size #[.int .i64 a0_0, .int .i64 a0_1, .int .i64 a0_2, .int .i64 a0_3, .int .i64 a0_4, .slice a0_5.a a0_5.n a0_5.c, .slice a0_6.a a0_6.n a0_6.c, .slice a0_7.a a0_7.n a0_7.c] →
 R (.returned (.tuple #[.agg #[.int .i64 a0_0, .int .i64 a0_1, .int .i64 a0_2, .int .i64 a0_3, .int .i64 a0_4, .slice a0_5.a a0_5.n a0_5.c, .slice a0_6.a a0_6.n a0_6.c, .slice a0_7.a a0_7.n a0_7.c], .int .i64 11])) w10)
 (Br (decide ((a1_1 : Int) < 0))
 (∀ w11 : World, w11 = w8.setRow w1.heap.size #[.int .i64 a0_0, .int .i64 a0_1, .int .i64 a0_2, .int .i64 a0_3, .int .i64 a0_4, .slice a0_5.a a0_5.n a0_5.c, .slice a0_6.a a0_6.n a0_6.c, .slice a0_7.a a0_7.n a0_7.c] →
 R (.returned (.tuple #[.agg #[.int .i64 a0_0, .int .i64 a0_1, .int .i64 a0_2, .int .i64 a0_3, .int .i64 a0_4, .slice a0_5.a a0_5.n a0_5.c, .slice a0_6.a a0_6.n a0_6.c, .slice a0_7.a a0_7.n a0_7.c], .int .i64 5])) w11)
 (Br (decide ((a1_1 : Int) > 31))
 (∀ w12 : World, w12 = w8.setRow w1.heap.size #[.int .i64 a0_0, .int .i64 a0_1, .int .i64 a0_2, .int .i64 a0_3, .int .i64 a0_4, .slice a0_5.a a0_5.n a0_5.c, .slice a0_6.a a0_6.n a0_6.c, .slice a0_7.a a0_7.n a0_7.c] →
 R (.returned (.tuple #[.agg #[.int .i64 a0_0, .int .i64 a0_1, .int .i64 a0_2, .int .i64 a0_3, .int .i64 a0_4, .slice a0_5.a a0_5.n a0_5.c, .slice a0_6.a a0_6.n a0_6.c, .slice a0_7.a a0_7.n a0_7.c], .int .i64 5])) w12)
 (Br (!b9)
 (∀ w13 : World, w13 = w8.setRow w1.heap.size #[.int .i64 a0_0, .int .i64 a0_1, .int .i64 a0_2, .int .i64 a0_3, .int .i64 a0_4, .slice a0_5.a a0_5.n a0_5.c, .slice a0_6.a a0_6.n a0_6.c, .slice a0_7.a a0_7.n a0_7.c] →
 R (.returned (.tuple #[.agg #[.int .i64 a0_0, .int .i64 a0_1, .int .i64 a0_2, .int .i64 a0_3, .int .i64 a0_4, .slice a0_5.a a0_5.n a0_5.c, .slice a0_6.a a0_6.n a0_6.c, .slice a0_7.a a0_7.n a0_7.c], .int .i64 1])) w13)
 (InB a0_7.a x7 a0_7.n ∧ ∃ (x14 : Int) (x15 : Int) (s16 : Sl) (b17 : Bool) (x18 : Int), LoadL w8 (padd a0_7.a ((x7 : Int).toNat * 5)) 0 [.int .i64 x14, .int .i64 x15, .slice s16.a s16.n s16.c, .bool b17, .int .i64 x18] ∧
 ∀ w19 : World, w19 = w8.alloc (.cells #[.int .i64 0, .int .i64 0, .slice none 0 0, .bool false, .int .i64 0] 148) →
 ∀ w20 : World, w20 = w19.setRow w8.heap.size #[.int .i64 x14, .int .i64 x15, .slice s16.a s16.n s16.c, .bool b17, .int .i64 x18] →
 Br b17
 (∀ w21 : World, w21 = w20.setRow w8.heap.size #[.int .i64 x14, .int .i64 x15, .slice s16.a s16.n s16.c, .bool true, .int .i64 x18] →
 Calls Tryz.prog 131 #[.agg #[.int .i64 x14, .int .i64 x15, .slice s16.a s16.n s16.c], .agg #[.int .i64 a1_0, .int .i64 a1_1, .int .i64 a1_2], .int .i64 a2] w21 (fun e w22 => ∃ (x23 : Int) (x24 : Int) (s25 : Sl) (x26 : Int), e = .returned (.tuple #[.agg #[.int .i64 x23, .int .i64 x24, .slice s25.a s25.n s25.c], .int .i64 x26]) ∧ w22.heap[w.heap.size]? = w21.heap[w.heap.size]? ∧ w22.heap[w0.heap.size]? = w21.heap[w0.heap.size]? ∧ w22.heap[w1.heap.size]? = w21.heap[w1.heap.size]? ∧ w22.heap[w8.heap.size]? = w21.heap[w8.heap.size]? ∧
 ∀ w27 : World, w27 = w22.alloc (.cells #[.int .i64 0, .int .i64 0, .slice none 0 0] 146) →
 ∀ w28 : World, w28 = w27.setRow w22.heap.size #[.int .i64 x23, .int .i64 x24, .slice s25.a s25.n s25.c] →
 ∀ w29 : World, w29 = w28.setRow w8.heap.size #[.int .i64 x23, .int .i64 x24, .slice s25.a s25.n s25.c, .bool true, .int .i64 x18] →
 Calls Tryz.prog n_ref12_without #[.agg #[.int .i64 a0_0, .int .i64 a0_1, .int .i64 a0_2, .int .i64 a0_3, .int .i64 a0_4, .slice a0_5.a a0_5.n a0_5.c, .slice a0_6.a a0_6.n a0_6.c, .slice a0_7.a a0_7.n a0_7.c], .int .i64 x7] w29.drew (fun e w30 => ∃ (x31 : Int) (x32 : Int) (x33 : Int) (x34 : Int) (x35 : Int) (s36 : Sl) (s37 : Sl) (s38 : Sl), e = .returned (.agg #[.int .i64 x31, .int .i64 x32, .int .i64 x33, .int .i64 x34, .int .i64 x35, .slice s36.a s36.n s36.c, .slice s37.a s37.n s37.c, .slice s38.a s38.n s38.c]) ∧ w30.heap[w.heap.size]? = w29.drew.heap[w.heap.size]? ∧ w30.heap[w0.heap.size]? = w29.drew.heap[w0.heap.size]? ∧ w30.heap[w1.heap.size]? = w29.drew.heap[w1.heap.size]? ∧ w30.heap[w8.heap.size]? = w29.drew.heap[w8.heap.size]? ∧ w30.heap[w22.heap.size]? = w29.drew.heap[w22.heap.size]? ∧
 LoadL w30 (some ⟨w8.heap.size, 0, none⟩) 0 [.int .i64 x23, .int .i64 x24, .slice s25.a s25.n s25.c, .bool true, .int .i64 x18] ∧ Calls Tryz.prog n_ref12_last #[.agg #[.int .i64 x31, .int .i64 x32, .int .i64 x33, .int .i64 x34, .int .i64 x35, .slice s36.a s36.n s36.c, .slice s37.a s37.n s37.c, .slice s38.a s38.n s38.c], .agg #[.int .i64 x23, .int .i64 x24, .slice s25.a s25.n s25.c, .bool true, .int .i64 x18]] w30 (fun e w39 => ∃ (x40 : Int) (x41 : Int) (x42 : Int) (x43 : Int) (x44 : Int) (s45 : Sl) (s46 : Sl) (s47 : Sl), e = .returned (.agg #[.int .i64 x40, .int .i64 x41, .int .i64 x42, .int .i64 x43, .int .i64 x44, .slice s45.a s45.n s45.c, .slice s46.a s46.n s46.c, .slice s47.a s47.n s47.c]) ∧ w39.heap[w.heap.size]? = w30.heap[w.heap.size]? ∧ w39.heap[w0.heap.size]? = w30.heap[w0.heap.size]? ∧ w39.heap[w1.heap.size]? = w30.heap[w1.heap.size]? ∧ w39.heap[w8.heap.size]? = w30.heap[w8.heap.size]? ∧ w39.heap[w22.heap.size]? = w30.heap[w22.heap.size]? ∧
 ∀ w48 : World, w48 = w39.setRow w1.heap.size #[.int .i64 x40, .int .i64 x41, .int .i64 x42, .int .i64 x43, .int .i64 x44, .slice s45.a s45.n s45.c, .slice s46.a s46.n s46.c, .slice s47.a s47.n s47.c] →
 R (.returned (.tuple #[.agg #[.int .i64 x40, .int .i64 x41, .int .i64 x42, .int .i64 x43, .int .i64 x44, .slice s45.a s45.n s45.c, .slice s46.a s46.n s46.c, .slice s47.a s47.n s47.c], .int .i64 0])) w48))))
 (Calls Tryz.prog 83 #[.agg #[.int .i64 x14, .int .i64 x15, .slice s16.a s16.n s16.c], .agg #[.int .i64 a1_0, .int .i64 a1_1, .int .i64 a1_2]] w20 (fun e w49 => ∃ (x50 : Int), e = .returned (.int .i64 x50) ∧ w49.heap[w.heap.size]? = w20.heap[w.heap.size]? ∧ w49.heap[w0.heap.size]? = w20.heap[w0.heap.size]? ∧ w49.heap[w1.heap.size]? = w20.heap[w1.heap.size]? ∧ w49.heap[w8.heap.size]? = w20.heap[w8.heap.size]? ∧
 ∀ w51 : World, w51 = w49.setRow w8.heap.size #[.int .i64 x14, .int .i64 x15, .slice s16.a s16.n s16.c, .bool ((x50 : Int) != a2), .int .i64 x18] →
 Calls Tryz.prog 131 #[.agg #[.int .i64 x14, .int .i64 x15, .slice s16.a s16.n s16.c], .agg #[.int .i64 a1_0, .int .i64 a1_1, .int .i64 a1_2], .int .i64 a2] w51 (fun e w52 => ∃ (x53 : Int) (x54 : Int) (s55 : Sl) (x56 : Int), e = .returned (.tuple #[.agg #[.int .i64 x53, .int .i64 x54, .slice s55.a s55.n s55.c], .int .i64 x56]) ∧ w52.heap[w.heap.size]? = w51.heap[w.heap.size]? ∧ w52.heap[w0.heap.size]? = w51.heap[w0.heap.size]? ∧ w52.heap[w1.heap.size]? = w51.heap[w1.heap.size]? ∧ w52.heap[w8.heap.size]? = w51.heap[w8.heap.size]? ∧
 ∀ w57 : World, w57 = w52.alloc (.cells #[.int .i64 0, .int .i64 0, .slice none 0 0] 146) →
 ∀ w58 : World, w58 = w57.setRow w52.heap.size #[.int .i64 x53, .int .i64 x54, .slice s55.a s55.n s55.c] →
 ∀ w59 : World, w59 = w58.setRow w8.heap.size #[.int .i64 x53, .int .i64 x54, .slice s55.a s55.n s55.c, .bool ((x50 : Int) != a2), .int .i64 x18] →
 Calls Tryz.prog n_ref12_without #[.agg #[.int .i64 a0_0, .int .i64 a0_1, .int .i64 a0_2, .int .i64 a0_3, .int .i64 a0_4, .slice a0_5.a a0_5.n a0_5.c, .slice a0_6.a a0_6.n a0_6.c, .slice a0_7.a a0_7.n a0_7.c], .int .i64 x7] w59.drew (fun e w60 => ∃ (x61 : Int) (x62 : Int) (x63 : Int) (x64 : Int) (x65 : Int) (s66 : Sl) (s67 : Sl) (s68 : Sl), e = .returned (.agg #[.int .i64 x61, .int .i64 x62, .int .i64 x63, .int .i64 x64, .int .i64 x65, .slice s66.a s66.n s66.c, .slice s67.a s67.n s67.c, .slice s68.a s68.n s68.c]) ∧ w60.heap[w.heap.size]? = w59.drew.heap[w.heap.size]? ∧ w60.heap[w0.heap.size]? = w59.drew.heap[w0.heap.size]? ∧ w60.heap[w1.heap.size]? = w59.drew.heap[w1.heap.size]? ∧ w60.heap[w8.heap.size]? = w59.drew.heap[w8.heap.size]? ∧ w60.heap[w52.heap.size]? = w59.drew.heap[w52.heap.size]? ∧
 LoadL w60 (some ⟨w8.heap.size, 0, none⟩) 0 [.int .i64 x53, .int .i64 x54, .slice s55.a s55.n s55.c, .bool ((x50 : Int) != a2), .int .i64 x18] ∧ Calls Tryz.prog n_ref12_last #[.agg #[.int .i64 x61, .int .i64 x62, .int .i64 x63, .int .i64 x64, .int .i64 x65, .slice s66.a s66.n s66.c, .slice s67.a s67.n s67.c, .slice s68.a s68.n s68.c], .agg #[.int .i64 x53, .int .i64 x54, .slice s55.a s55.n s55.c, .bool ((x50 : Int) != a2), .int .i64 x18]] w60 (fun e w69 => ∃ (x70 : Int) (x71 : Int) (x72 : Int) (x73 : Int) (x74 : Int) (s75 : Sl) (s76 : Sl) (s77 : Sl), e = .returned (.agg #[.int .i64 x70, .int .i64 x71, .int .i64 x72, .int .i64 x73, .int .i64 x74, .slice s75.a s75.n s75.c, .slice s76.a s76.n s76.c, .slice s77.a s77.n s77.c]) ∧ w69.heap[w.heap.size]? = w60.heap[w.heap.size]? ∧ w69.heap[w0.heap.size]? = w60.heap[w0.heap.size]? ∧ w69.heap[w1.heap.size]? = w60.heap[w1.heap.size]? ∧ w69.heap[w8.heap.size]? = w60.heap[w8.heap.size]? ∧ w69.heap[w52.heap.size]? = w60.heap[w52.heap.size]? ∧
 ∀ w78 : World, w78 = w69.setRow w1.heap.size #[.int .i64 x70, .int .i64 x71, .int .i64 x72, .int .i64 x73, .int .i64 x74, .slice s75.a s75.n s75.c, .slice s76.a s76.n s76.c, .slice s77.a s77.n s77.c] →
 R (.returned (.tuple #[.agg #[.int .i64 x70, .int .i64 x71, .int .i64 x72, .int .i64 x73, .int .i64 x74, .slice s75.a s75.n s75.c, .slice s76.a s76.n s76.c, .slice s77.a s77.n s77.c], .int .i64 0])) w78))))))))))))
theorem ref12_Set.vc {a0_0 a0_1 a0_2 a0_3 a0_4 a0_5 a0_6 a0_7 a1_0 a1_1 a1_2 a2 w} {R : Ending → World → Prop} (h : ref12_Set.pre a0_0 a0_1 a0_2 a0_3 a0_4 a0_5 a0_6 a0_7 a1_0 a1_1 a1_2 a2 w R) : Calls Tryz.prog n_ref12_Set #[.agg #[.int .i64 a0_0, .int .i64 a0_1, .int .i64 a0_2, .int .i64 a0_3, .int .i64 a0_4, .slice a0_5.a a0_5.n a0_5.c, .slice a0_6.a a0_6.n a0_6.c, .slice a0_7.a a0_7.n a0_7.c], .agg #[.int .i64 a1_0, .int .i64 a1_1, .int .i64 a1_2], .int .i64 a2] w R :=
 calls_of_eq (an := ⟨[], [], []⟩) (args := [.agg #[.int .i64 a0_0, .int .i64 a0_1, .int .i64 a0_2, .int .i64 a0_3, .int .i64 a0_4, .slice a0_5.a a0_5.n a0_5.c, .slice a0_6.a a0_6.n a0_6.c, .slice a0_7.a a0_7.n a0_7.c], .agg #[.int .i64 a1_0, .int .i64 a1_1, .int .i64 a1_2], .int .i64 a2]) Tryz.noNG Tryz.mixed Tryz.func91 h (by kernel_rfl)
def ref09_Save.pre (a0_0 : Int) (a0_1 : Int) (a0_2 : Int) (a0_3 : Sl) (a0_4 : Sl) (a1 : Int) (a2 : Sl) (w : World) (R : Ending → World → Prop) : Prop :=
 ∀ w0 : World, w0 = w.alloc (.cells #[.int .i64 a0_0, .int .i64 a0_1, .int .i64 a0_2, .slice a0_3.a a0_3.n a0_3.c, .slice a0_4.a a0_4.n a0_4.c] 87) →
 ∀ w1 : World, w1 = w0.alloc (.cells #[.int .i64 0, .int .i64 0, .int .i64 0, .slice none 0 0, .slice none 0 0] 87) →
 Br (decide ((a1 : Int) < 0))
 (∀ w2 : World, w2 = w1.setRow w0.heap.size #[.int .i64 a0_0, .int .i64 a0_1, .int .i64 a0_2, .slice a0_3.a a0_3.n a0_3.c, .slice a0_4.a a0_4.n a0_4.c] →
 R (.returned (.tuple #[.agg #[.int .i64 a0_0, .int .i64 a0_1, .int .i64 a0_2, .slice a0_3.a a0_3.n a0_3.c, .slice a0_4.a a0_4.n a0_4.c], .int .i64 1])) w2)
 (Br (decide ((a1 : Int) > 1099511627776))
 (∀ w3 : World, w3 = w1.setRow w0.heap.size #[.int .i64 a0_0, .int .i64 a0_1, .int .i64 a0_2, .slice a0_3.a a0_3.n a0_3.c, .slice a0_4.a a0_4.n a0_4.c] →
 R (.returned (.tuple #[.agg #[.int .i64 a0_0, .int .i64 a0_1, .int .i64 a0_2, .slice a0_3.a a0_3.n a0_3.c, .slice a0_4.a a0_4.n a0_4.c], .int .i64 1])) w3)
 (Calls Tryz.prog n_ref09_Of #[.agg #[.int .i64 a0_0, .int .i64 a0_1, .int .i64 a0_2, .slice a0_3.a a0_3.n a0_3.c, .slice a0_4.a a0_4.n a0_4.c], .int .i64 a1] w1 (fun e w4 => ∃ (x5 : Int) (x6 : Int) (s7 : Sl), e = .returned (.tuple #[.int .i64 x5, .int .i64 x6, .slice s7.a s7.n s7.c]) ∧ w4.heap[w.heap.size]? = w1.heap[w.heap.size]? ∧ w4.heap[w0.heap.size]? = w1.heap[w0.heap.size]? ∧
 Calls Tryz.prog n_ref09_Write #[.int .i64 (IntKind.wrap .i64 (x6 + 1)), .slice a2.a a2.n a2.c] w4 (fun e w8 => ∃ (s9 : Sl) (x10 : Int), e = .returned (.tuple #[.slice s9.a s9.n s9.c, .int .i64 x10]) ∧ w8.heap[w.heap.size]? = w4.heap[w.heap.size]? ∧ w8.heap[w0.heap.size]? = w4.heap[w0.heap.size]? ∧
 Br ((x10 : Int) != 0)
 (∀ w11 : World, w11 = w8.setRow w0.heap.size #[.int .i64 a0_0, .int .i64 a0_1, .int .i64 a0_2, .slice a0_3.a a0_3.n a0_3.c, .slice a0_4.a a0_4.n a0_4.c] →
 R (.returned (.tuple #[.agg #[.int .i64 a0_0, .int .i64 a0_1, .int .i64 a0_2, .slice a0_3.a a0_3.n a0_3.c, .slice a0_4.a a0_4.n a0_4.c], .int .i64 x10])) w11)
 (Calls Tryz.prog n_ref08_Put #[.agg #[.int .i64 a0_0, .int .i64 a0_1, .int .i64 a0_2, .slice a0_3.a a0_3.n a0_3.c, .slice a0_4.a a0_4.n a0_4.c], .int .i64 (IntKind.wrap .i64 ((IntKind.wrap .i64 ((IntKind.wrap .i64 (4 * a1)) + 1)) - x5)), .slice s9.a s9.n s9.c] w8 (fun e w12 => ∃ (x13 : Int) (x14 : Int) (x15 : Int) (s16 : Sl) (s17 : Sl) (x18 : Int), e = .returned (.tuple #[.agg #[.int .i64 x13, .int .i64 x14, .int .i64 x15, .slice s16.a s16.n s16.c, .slice s17.a s17.n s17.c], .int .i64 x18]) ∧ w12.heap[w.heap.size]? = w8.heap[w.heap.size]? ∧ w12.heap[w0.heap.size]? = w8.heap[w0.heap.size]? ∧
 ∀ w19 : World, w19 = w12.alloc (.cells #[.int .i64 0, .int .i64 0, .int .i64 0, .slice none 0 0, .slice none 0 0] 87) →
 ∀ w20 : World, w20 = w19.setRow w12.heap.size #[.int .i64 x13, .int .i64 x14, .int .i64 x15, .slice s16.a s16.n s16.c, .slice s17.a s17.n s17.c] →
 Br ((x18 : Int) != 0)
 (∀ w21 : World, w21 = w20.setRow w0.heap.size #[.int .i64 x13, .int .i64 x14, .int .i64 x15, .slice s16.a s16.n s16.c, .slice s17.a s17.n s17.c] →
 R (.returned (.tuple #[.agg #[.int .i64 x13, .int .i64 x14, .int .i64 x15, .slice s16.a s16.n s16.c, .slice s17.a s17.n s17.c], .int .i64 x18])) w21)
 (Calls Tryz.prog n_ref08_Sync #[.agg #[.int .i64 x13, .int .i64 x14, .int .i64 x15, .slice s16.a s16.n s16.c, .slice s17.a s17.n s17.c]] w20 (fun e w22 => ∃ (x23 : Int) (x24 : Int) (x25 : Int) (s26 : Sl) (s27 : Sl) (x28 : Int), e = .returned (.tuple #[.agg #[.int .i64 x23, .int .i64 x24, .int .i64 x25, .slice s26.a s26.n s26.c, .slice s27.a s27.n s27.c], .int .i64 x28]) ∧ w22.heap[w.heap.size]? = w20.heap[w.heap.size]? ∧ w22.heap[w0.heap.size]? = w20.heap[w0.heap.size]? ∧ w22.heap[w12.heap.size]? = w20.heap[w12.heap.size]? ∧
 ∀ w29 : World, w29 = w22.setRow w0.heap.size #[.int .i64 x23, .int .i64 x24, .int .i64 x25, .slice s26.a s26.n s26.c, .slice s27.a s27.n s27.c] →
 R (.returned (.tuple #[.agg #[.int .i64 x23, .int .i64 x24, .int .i64 x25, .slice s26.a s26.n s26.c, .slice s27.a s27.n s27.c], .int .i64 x28])) w29))))))))
theorem ref09_Save.vc {a0_0 a0_1 a0_2 a0_3 a0_4 a1 a2 w} {R : Ending → World → Prop} (h : ref09_Save.pre a0_0 a0_1 a0_2 a0_3 a0_4 a1 a2 w R) : Calls Tryz.prog n_ref09_Save #[.agg #[.int .i64 a0_0, .int .i64 a0_1, .int .i64 a0_2, .slice a0_3.a a0_3.n a0_3.c, .slice a0_4.a a0_4.n a0_4.c], .int .i64 a1, .slice a2.a a2.n a2.c] w R :=
 calls_of_eq (an := ⟨[], [], []⟩) (args := [.agg #[.int .i64 a0_0, .int .i64 a0_1, .int .i64 a0_2, .slice a0_3.a a0_3.n a0_3.c, .slice a0_4.a a0_4.n a0_4.c], .int .i64 a1, .slice a2.a a2.n a2.c]) Tryz.noNG Tryz.mixed Tryz.func92 h (by kernel_rfl)
def ref09_Load.pre (a0_0 : Int) (a0_1 : Int) (a0_2 : Int) (a0_3 : Sl) (a0_4 : Sl) (a1 : Int) (w : World) (R : Ending → World → Prop) : Prop :=
 ∀ w0 : World, w0 = w.alloc (.cells #[.int .i64 a0_0, .int .i64 a0_1, .int .i64 a0_2, .slice a0_3.a a0_3.n a0_3.c, .slice a0_4.a a0_4.n a0_4.c] 87) →
 Br (decide ((a1 : Int) < 0))
 (R (.returned (.tuple #[.slice none 0 0, .int .i64 0, .bool false])) w0)
 (Br (decide ((a1 : Int) > 1099511627776))
 (R (.returned (.tuple #[.slice none 0 0, .int .i64 0, .bool false])) w0)
 (Calls Tryz.prog n_ref09_Of #[.agg #[.int .i64 a0_0, .int .i64 a0_1, .int .i64 a0_2, .slice a0_3.a a0_3.n a0_3.c, .slice a0_4.a a0_4.n a0_4.c], .int .i64 a1] w0 (fun e w1 => ∃ (x2 : Int) (x3 : Int) (s4 : Sl), e = .returned (.tuple #[.int .i64 x2, .int .i64 x3, .slice s4.a s4.n s4.c]) ∧ w1.heap[w.heap.size]? = w0.heap[w.heap.size]? ∧
 R (.returned (.tuple #[.slice s4.a s4.n s4.c, .int .i64 x3, .bool (decide ((x3 : Int) > 0))])) w1)))
theorem ref09_Load.vc {a0_0 a0_1 a0_2 a0_3 a0_4 a1 w} {R : Ending → World → Prop} (h : ref09_Load.pre a0_0 a0_1 a0_2 a0_3 a0_4 a1 w R) : Calls Tryz.prog n_ref09_Load #[.agg #[.int .i64 a0_0, .int .i64 a0_1, .int .i64 a0_2, .slice a0_3.a a0_3.n a0_3.c, .slice a0_4.a a0_4.n a0_4.c], .int .i64 a1] w R :=
 calls_of_eq (an := ⟨[], [], []⟩) (args := [.agg #[.int .i64 a0_0, .int .i64 a0_1, .int .i64 a0_2, .slice a0_3.a a0_3.n a0_3.c, .slice a0_4.a a0_4.n a0_4.c], .int .i64 a1]) Tryz.noNG Tryz.mixed Tryz.func99 h (by kernel_rfl)
def ref12_last.pre (a0_0 : Int) (a0_1 : Int) (a0_2 : Int) (a0_3 : Int) (a0_4 : Int) (a0_5 : Sl) (a0_6 : Sl) (a0_7 : Sl) (a1_0 : Int) (a1_1 : Int) (a1_2 : Sl) (a1_3 : Bool) (a1_4 : Int) (w : World) (R : Ending → World → Prop) : Prop :=
 ∀ w0 : World, w0 = w.alloc (.cells #[.int .i64 a0_0, .int .i64 a0_1, .int .i64 a0_2, .int .i64 a0_3, .int .i64 a0_4, .slice a0_5.a a0_5.n a0_5.c, .slice a0_6.a a0_6.n a0_6.c, .slice a0_7.a a0_7.n a0_7.c] 90) →
 ∀ w1 : World, w1 = w0.alloc (.cells #[.int .i64 a1_0, .int .i64 a1_1, .slice a1_2.a a1_2.n a1_2.c, .bool a1_3, .int .i64 a1_4] 148) →
 ∀ w2 : World, w2 = w1.alloc (.cells #[.int .i64 0, .int .i64 0, .int .i64 0, .int .i64 0, .int .i64 0, .slice none 0 0, .slice none 0 0, .slice none 0 0] 90) →
 ∃ l3 : List Value, Rd w2 a0_7.a l3 ∧ AppPre 56 5 w2 ⟨none, 0, 0⟩ a0_7.n l3 ∧ ∀ (s4 : Sl) (w5 : World), AppRes 148 5 w2 ⟨none, 0, 0⟩ a0_7.n l3 s4 w5 → w5.heap[w.heap.size]? = w2.heap[w.heap.size]? ∧ w5.heap[w0.heap.size]? = w2.heap[w0.heap.size]? ∧ w5.heap[w1.heap.size]? = w2.heap[w1.heap.size]? ∧
 ∀ w6 : World, w6 = w5.alloc (.cells #[.int .i64 a1_0, .int .i64 a1_1, .slice a1_2.a a1_2.n a1_2.c, .bool a1_3, .int .i64 a1_4] 148) →
 AppPre 56 5 w6 ⟨s4.a, s4.n, s4.c⟩ 1 [.int .i64 a1_0, .int .i64 a1_1, .slice a1_2.a a1_2.n a1_2.c, .bool a1_3, .int .i64 a1_4] ∧ ∀ (s7 : Sl) (w8 : World), AppRes 148 5 w6 ⟨s4.a, s4.n, s4.c⟩ 1 [.int .i64 a1_0, .int .i64 a1_1, .slice a1_2.a a1_2.n a1_2.c, .bool a1_3, .int .i64 a1_4] s7 w8 → w8.heap[w.heap.size]? = w6.heap[w.heap.size]? ∧ w8.heap[w0.heap.size]? = w6.heap[w0.heap.size]? ∧ w8.heap[w1.heap.size]? = w6.heap[w1.heap.size]? ∧ w8.heap[w5.heap.size]? = w6.heap[w5.heap.size]? ∧
 ∀ w9 : World, w9 = w8.setRow w.heap.size #[.int .i64 a0_0, .int .i64 a0_1, .int .i64 a0_2, .int .i64 a0_3, .int .i64 a0_4, .slice a0_5.a a0_5.n a0_5.c, .slice a0_6.a a0_6.n a0_6.c, .slice s7.a s7.n s7.c] →
 ∀ w10 : World, w10 = w9.setRow w1.heap.size #[.int .i64 a0_0, .int .i64 a0_1, .int .i64 a0_2, .int .i64 a0_3, .int .i64 a0_4, .slice a0_5.a a0_5.n a0_5.c, .slice a0_6.a a0_6.n a0_6.c, .slice s7.a s7.n s7.c] →
 R (.returned (.agg #[.int .i64 a0_0, .int .i64 a0_1, .int .i64 a0_2, .int .i64 a0_3, .int .i64 a0_4, .slice a0_5.a a0_5.n a0_5.c, .slice a0_6.a a0_6.n a0_6.c, .slice s7.a s7.n s7.c])) w10
theorem ref12_last.vc {a0_0 a0_1 a0_2 a0_3 a0_4 a0_5 a0_6 a0_7 a1_0 a1_1 a1_2 a1_3 a1_4 w} {R : Ending → World → Prop} (h : ref12_last.pre a0_0 a0_1 a0_2 a0_3 a0_4 a0_5 a0_6 a0_7 a1_0 a1_1 a1_2 a1_3 a1_4 w R) : Calls Tryz.prog n_ref12_last #[.agg #[.int .i64 a0_0, .int .i64 a0_1, .int .i64 a0_2, .int .i64 a0_3, .int .i64 a0_4, .slice a0_5.a a0_5.n a0_5.c, .slice a0_6.a a0_6.n a0_6.c, .slice a0_7.a a0_7.n a0_7.c], .agg #[.int .i64 a1_0, .int .i64 a1_1, .slice a1_2.a a1_2.n a1_2.c, .bool a1_3, .int .i64 a1_4]] w R :=
 calls_of_eq (an := ⟨[], [], []⟩) (args := [.agg #[.int .i64 a0_0, .int .i64 a0_1, .int .i64 a0_2, .int .i64 a0_3, .int .i64 a0_4, .slice a0_5.a a0_5.n a0_5.c, .slice a0_6.a a0_6.n a0_6.c, .slice a0_7.a a0_7.n a0_7.c], .agg #[.int .i64 a1_0, .int .i64 a1_1, .slice a1_2.a a1_2.n a1_2.c, .bool a1_3, .int .i64 a1_4]]) Tryz.noNG Tryz.mixed Tryz.func123 h (by kernel_rfl)
def ref12_without.pre (a0_0 : Int) (a0_1 : Int) (a0_2 : Int) (a0_3 : Int) (a0_4 : Int) (a0_5 : Sl) (a0_6 : Sl) (a0_7 : Sl) (a1 : Int) (w : World) (R : Ending → World → Prop) : Prop :=
 ∀ w0 : World, w0 = w.alloc (.cells #[.int .i64 a0_0, .int .i64 a0_1, .int .i64 a0_2, .int .i64 a0_3, .int .i64 a0_4, .slice a0_5.a a0_5.n a0_5.c, .slice a0_6.a a0_6.n a0_6.c, .slice a0_7.a a0_7.n a0_7.c] 90) →
 ∀ w1 : World, w1 = w0.alloc (.cells #[.int .i64 0, .int .i64 0, .int .i64 0, .int .i64 0, .int .i64 0, .slice none 0 0, .slice none 0 0, .slice none 0 0] 90) →
 (0 : Int) ≤ a1 ∧ a1 ≤ ((a0_7.c : Nat) : Int) ∧ ∃ l2 : List Value, Rd w1 (slBase a0_7.a (0) (a0_7.c) 5) l2 ∧ AppPre 56 5 w1 ⟨none, 0, 0⟩ ((a1 : Int).toNat - 0) l2 ∧ ∀ (s3 : Sl) (w4 : World), AppRes 148 5 w1 ⟨none, 0, 0⟩ ((a1 : Int).toNat - 0) l2 s3 w4 → w4.heap[w.heap.size]? = w1.heap[w.heap.size]? ∧ w4.heap[w0.heap.size]? = w1.heap[w0.heap.size]? ∧
 (0 : Int) ≤ (IntKind.wrap .i64 (a1 + 1)) ∧ (IntKind.wrap .i64 (a1 + 1)) ≤ ((a0_7.n : Nat) : Int) ∧ ∃ l5 : List Value, Rd w4 (slBase a0_7.a (((IntKind.wrap .i64 (a1 + 1)) : Int).toNat) (a0_7.c) 5) l5 ∧ AppPre 56 5 w4 ⟨s3.a, s3.n, s3.c⟩ (a0_7.n - ((IntKind.wrap .i64 (a1 + 1)) : Int).toNat) l5 ∧ ∀ (s6 : Sl) (w7 : World), AppRes 148 5 w4 ⟨s3.a, s3.n, s3.c⟩ (a0_7.n - ((IntKind.wrap .i64 (a1 + 1)) : Int).toNat) l5 s6 w7 → w7.heap[w.heap.size]? = w4.heap[w.heap.size]? ∧ w7.heap[w0.heap.size]? = w4.heap[w0.heap.size]? ∧
 ∀ w8 : World, w8 = w7.setRow w.heap.size #[.int .i64 a0_0, .int .i64 a0_1, .int .i64 a0_2, .int .i64 a0_3, .int .i64 a0_4, .slice a0_5.a a0_5.n a0_5.c, .slice a0_6.a a0_6.n a0_6.c, .slice s6.a s6.n s6.c] →
 ∀ w9 : World, w9 = w8.setRow w0.heap.size #[.int .i64 a0_0, .int .i64 a0_1, .int .i64 a0_2, .int .i64 a0_3, .int .i64 a0_4, .slice a0_5.a a0_5.n a0_5.c, .slice a0_6.a a0_6.n a0_6.c, .slice s6.a s6.n s6.c] →
 R (.returned (.agg #[.int .i64 a0_0, .int .i64 a0_1, .int .i64 a0_2, .int .i64 a0_3, .int .i64 a0_4, .slice a0_5.a a0_5.n a0_5.c, .slice a0_6.a a0_6.n a0_6.c, .slice s6.a s6.n s6.c])) w9
theorem ref12_without.vc {a0_0 a0_1 a0_2 a0_3 a0_4 a0_5 a0_6 a0_7 a1 w} {R : Ending → World → Prop} (h : ref12_without.pre a0_0 a0_1 a0_2 a0_3 a0_4 a0_5 a0_6 a0_7 a1 w R) : Calls Tryz.prog n_ref12_without #[.agg #[.int .i64 a0_0, .int .i64 a0_1, .int .i64 a0_2, .int .i64 a0_3, .int .i64 a0_4, .slice a0_5.a a0_5.n a0_5.c, .slice a0_6.a a0_6.n a0_6.c, .slice a0_7.a a0_7.n a0_7.c], .int .i64 a1] w R :=
 calls_of_eq (an := ⟨[], [], []⟩) (args := [.agg #[.int .i64 a0_0, .int .i64 a0_1, .int .i64 a0_2, .int .i64 a0_3, .int .i64 a0_4, .slice a0_5.a a0_5.n a0_5.c, .slice a0_6.a a0_6.n a0_6.c, .slice a0_7.a a0_7.n a0_7.c], .int .i64 a1]) Tryz.noNG Tryz.mixed Tryz.func124 h (by kernel_rfl)
def ref12_save.pre (a0_0 : Int) (a0_1 : Int) (a0_2 : Int) (a0_3 : Int) (a0_4 : Int) (a0_5 : Sl) (a0_6 : Sl) (a0_7 : Sl) (a1 : Int) (w : World) (R : Ending → World → Prop) : Prop :=
 ∀ w0 : World, w0 = w.alloc (.cells #[.int .i64 a0_0, .int .i64 a0_1, .int .i64 a0_2, .int .i64 a0_3, .int .i64 a0_4, .slice a0_5.a a0_5.n a0_5.c, .slice a0_6.a a0_6.n a0_6.c, .slice a0_7.a a0_7.n a0_7.c] 90) →
 ∀ w1 : World, w1 = w0.alloc (.cells #[.int .i64 0, .int .i64 0, .int .i64 0, .int .i64 0, .int .i64 0, .slice none 0 0, .slice none 0 0, .slice none 0 0] 90) →
 InB a0_7.a a1 a0_7.n ∧ ∃ (x2 : Int) (x3 : Int) (s4 : Sl) (b5 : Bool) (x6 : Int), LoadL w1 (padd a0_7.a ((a1 : Int).toNat * 5)) 0 [.int .i64 x2, .int .i64 x3, .slice s4.a s4.n s4.c, .bool b5, .int .i64 x6] ∧
 ∀ w7 : World, w7 = w1.alloc (.cells #[.int .i64 0, .int .i64 0, .slice none 0 0, .bool false, .int .i64 0] 148) →
 ∀ w8 : World, w8 = w7.setRow w1.heap.size #[.int .i64 x2, .int .i64 x3, .slice s4.a s4.n s4.c, .bool b5, .int .i64 x6] →
 Br (!b5)
 (∀ w9 : World, w9 = w8.setRow w0.heap.size #[.int .i64 a0_0, .int .i64 a0_1, .int .i64 a0_2, .int .i64 a0_3, .int .i64 a0_4, .slice a0_5.a a0_5.n a0_5.c, .slice a0_6.a a0_6.n a0_6.c, .slice a0_7.a a0_7.n a0_7.c] →
 R (.returned (.tuple #[.agg #[.int .i64 a0_0, .int .i64 a0_1, .int .i64 a0_2, .int .i64 a0_3, .int .i64 a0_4, .slice a0_5.a a0_5.n a0_5.c, .slice a0_6.a a0_6.n a0_6.c, .slice a0_7.a a0_7.n a0_7.c], .int .i64 0])) w9)
 (Calls Tryz.prog 152 #[.slice s4.a s4.n s4.c] w8 (fun e w10 => ∃ (s11 : Sl) (x12 : Int), e = .returned (.tuple #[.slice s11.a s11.n s11.c, .int .i64 x12]) ∧ w10.heap[w.heap.size]? = w8.heap[w.heap.size]? ∧ w10.heap[w0.heap.size]? = w8.heap[w0.heap.size]? ∧ w10.heap[w1.heap.size]? = w8.heap[w1.heap.size]? ∧
 (Calls Tryz.prog 122 #[.agg #[.int .i64 x2, .int .i64 x3]] w10.drew (fun e w13 => ∃ (x14 : Int), e = .returned (.int .i64 x14) ∧ w13.heap[w.heap.size]? = w10.drew.heap[w.heap.size]? ∧ w13.heap[w0.heap.size]? = w10.drew.heap[w0.heap.size]? ∧ w13.heap[w1.heap.size]? = w10.drew.heap[w1.heap.size]? ∧
 LoadL w13 (some ⟨w.heap.size, 2, none⟩) 0 [.int .i64 a0_2, .int .i64 a0_3, .int .i64 a0_4, .slice a0_5.a a0_5.n a0_5.c, .slice a0_6.a a0_6.n a0_6.c] ∧ (Calls Tryz.prog n_ref09_Save #[.agg #[.int .i64 a0_2, .int .i64 a0_3, .int .i64 a0_4, .slice a0_5.a a0_5.n a0_5.c, .slice a0_6.a a0_6.n a0_6.c], .int .i64 x14, .slice s11.a s11.n s11.c] w13 (fun e w15 => ∃ (x16 : Int) (x17 : Int) (x18 : Int) (s19 : Sl) (s20 : Sl) (x21 : Int), e = .returned (.tuple #[.agg #[.int .i64 x16, .int .i64 x17, .int .i64 x18, .slice s19.a s19.n s19.c, .slice s20.a s20.n s20.c], .int .i64 x21]) ∧ w15.heap[w.heap.size]? = w13.heap[w.heap.size]? ∧ w15.heap[w0.heap.size]? = w13.heap[w0.heap.size]? ∧ w15.heap[w1.heap.size]? = w13.heap[w1.heap.size]? ∧
 ∀ w22 : World, w22 = w15.alloc (.cells #[.int .i64 0, .int .i64 0, .int .i64 0, .slice none 0 0, .slice none 0 0] 87) →
 ∀ w23 : World, w23 = w22.setRow w15.heap.size #[.int .i64 x16, .int .i64 x17, .int .i64 x18, .slice s19.a s19.n s19.c, .slice s20.a s20.n s20.c] →
 ∀ w24 : World, w24 = w23.setRow w.heap.size #[.int .i64 a0_0, .int .i64 a0_1, .int .i64 x16, .int .i64 x17, .int .i64 x18, .slice s19.a s19.n s19.c, .slice s20.a s20.n s20.c, .slice a0_7.a a0_7.n a0_7.c] →
 ∀ w25 : World, w25 = w24.setRow w1.heap.size #[.int .i64 x2, .int .i64 x3, .slice s4.a s4.n s4.c, .bool ((x21 : Int) != 0), .int .i64 x6] →
 Calls Tryz.prog n_ref12_with #[.agg #[.int .i64 a0_0, .int .i64 a0_1, .int .i64 x16, .int .i64 x17, .int .i64 x18, .slice s19.a s19.n s19.c, .slice s20.a s20.n s20.c, .slice a0_7.a a0_7.n a0_7.c], .int .i64 a1, .agg #[.int .i64 x2, .int .i64 x3, .slice s4.a s4.n s4.c, .bool ((x21 : Int) != 0), .int .i64 x6]] w25 (fun e w26 => ∃ (x27 : Int) (x28 : Int) (x29 : Int) (x30 : Int) (x31 : Int) (s32 : Sl) (s33 : Sl) (s34 : Sl), e = .returned (.agg #[.int .i64 x27, .int .i64 x28, .int .i64 x29, .int .i64 x30, .int .i64 x31, .slice s32.a s32.n s32.c, .slice s33.a s33.n s33.c, .slice s34.a s34.n s34.c]) ∧ w26.heap[w.heap.size]? = w25.heap[w.heap.size]? ∧ w26.heap[w0.heap.size]? = w25.heap[w0.heap.size]? ∧ w26.heap[w1.heap.size]? = w25.heap[w1.heap.size]? ∧ w26.heap[w15.heap.size]? = w25.heap[w15.heap.size]? ∧
 ∀ w35 : World, w35 = w26.setRow w0.heap.size #[.int .i64 x27, .int .i64 x28, .int .i64 x29, .int .i64 x30, .int .i64 x31, .slice s32.a s32.n s32.c, .slice s33.a s33.n s33.c, .slice s34.a s34.n s34.c] →
 R (.returned (.tuple #[.agg #[.int .i64 x27, .int .i64 x28, .int .i64 x29, .int .i64 x30, .int .i64 x31, .slice s32.a s32.n s32.c, .slice s33.a s33.n s33.c, .slice s34.a s34.n s34.c], .int .i64 x21])) w35))) ∧ (∀ w36 : World, w36 = w13.alloc (.cells #[.int .i64 0, .int .i64 0, .int .i64 0, .slice none 0 0, .slice none 0 0] 87) →
 Calls Tryz.prog n_ref09_Save #[.agg #[.int .i64 a0_2, .int .i64 a0_3, .int .i64 a0_4, .slice a0_5.a a0_5.n a0_5.c, .slice a0_6.a a0_6.n a0_6.c], .int .i64 x14, .slice s11.a s11.n s11.c] w36 (fun e w37 => ∃ (x38 : Int) (x39 : Int) (x40 : Int) (s41 : Sl) (s42 : Sl) (x43 : Int), e = .returned (.tuple #[.agg #[.int .i64 x38, .int .i64 x39, .int .i64 x40, .slice s41.a s41.n s41.c, .slice s42.a s42.n s42.c], .int .i64 x43]) ∧ w37.heap[w.heap.size]? = w36.heap[w.heap.size]? ∧ w37.heap[w0.heap.size]? = w36.heap[w0.heap.size]? ∧ w37.heap[w1.heap.size]? = w36.heap[w1.heap.size]? ∧ w37.heap[w13.heap.size]? = w36.heap[w13.heap.size]? ∧
 ∀ w44 : World, w44 = w37.setRow w13.heap.size #[.int .i64 x38, .int .i64 x39, .int .i64 x40, .slice s41.a s41.n s41.c, .slice s42.a s42.n s42.c] →
 ∀ w45 : World, w45 = w44.setRow w.heap.size #[.int .i64 a0_0, .int .i64 a0_1, .int .i64 x38, .int .i64 x39, .int .i64 x40, .slice s41.a s41.n s41.c, .slice s42.a s42.n s42.c, .slice a0_7.a a0_7.n a0_7.c] →
 ∀ w46 : World, w46 = w45.setRow w1.heap.size #[.int .i64 x2, .int .i64 x3, .slice s4.a s4.n s4.c, .bool ((x43 : Int) != 0), .int .i64 x6] →
 Calls Tryz.prog n_ref12_with #[.agg #[.int .i64 a0_0, .int .i64 a0_1, .int .i64 x38, .int .i64 x39, .int .i64 x40, .slice s41.a s41.n s41.c, .slice s42.a s42.n s42.c, .slice a0_7.a a0_7.n a0_7.c], .int .i64 a1, .agg #[.int .i64 x2, .int .i64 x3, .slice s4.a s4.n s4.c, .bool ((x43 : Int) != 0), .int .i64 x6]] w46 (fun e w47 => ∃ (x48 : Int) (x49 : Int) (x50 : Int) (x51 : Int) (x52 : Int) (s53 : Sl) (s54 : Sl) (s55 : Sl), e = .returned (.agg #[.int .i64 x48, .int .i64 x49, .int .i64 x50, .int .i64 x51, .int .i64 x52, .slice s53.a s53.n s53.c, .slice s54.a s54.n s54.c, .slice s55.a s55.n s55.c]) ∧ w47.heap[w.heap.size]? = w46.heap[w.heap.size]? ∧ w47.heap[w0.heap.size]? = w46.heap[w0.heap.size]? ∧ w47.heap[w1.heap.size]? = w46.heap[w1.heap.size]? ∧ w47.heap[w13.heap.size]? = w46.heap[w13.heap.size]? ∧
 ∀ w56 : World, w56 = w47.setRow w0.heap.size #[.int .i64 x48, .int .i64 x49, .int .i64 x50, .int .i64 x51, .int .i64 x52, .slice s53.a s53.n s53.c, .slice s54.a s54.n s54.c, .slice s55.a s55.n s55.c] →
 R (.returned (.tuple #[.agg #[.int .i64 x48, .int .i64 x49, .int .i64 x50, .int .i64 x51, .int .i64 x52, .slice s53.a s53.n s53.c, .slice s54.a s54.n s54.c, .slice s55.a s55.n s55.c], .int .i64 x43])) w56))))) ∧ (∀ w57 : World, w57 = w10.drew.alloc (.cells #[.int .i64 0, .int .i64 0, .int .i64 0, .slice none 0 0, .slice none 0 0] 87) →
 Calls Tryz.prog 122 #[.agg #[.int .i64 x2, .int .i64 x3]] w57 (fun e w58 => ∃ (x59 : Int), e = .returned (.int .i64 x59) ∧ w58.heap[w.heap.size]? = w57.heap[w.heap.size]? ∧ w58.heap[w0.heap.size]? = w57.heap[w0.heap.size]? ∧ w58.heap[w1.heap.size]? = w57.heap[w1.heap.size]? ∧ w58.heap[w10.drew.heap.size]? = w57.heap[w10.drew.heap.size]? ∧
 LoadL w58 (some ⟨w.heap.size, 2, none⟩) 0 [.int .i64 a0_2, .int .i64 a0_3, .int .i64 a0_4, .slice a0_5.a a0_5.n a0_5.c, .slice a0_6.a a0_6.n a0_6.c] ∧ Calls Tryz.prog n_ref09_Save #[.agg #[.int .i64 a0_2, .int .i64 a0_3, .int .i64 a0_4, .slice a0_5.a a0_5.n a0_5.c, .slice a0_6.a a0_6.n a0_6.c], .int .i64 x59, .slice s11.a s11.n s11.c] w58 (fun e w60 => ∃ (x61 : Int) (x62 : Int) (x63 : Int) (s64 : Sl) (s65 : Sl) (x66 : Int), e = .returned (.tuple #[.agg #[.int .i64 x61, .int .i64 x62, .int .i64 x63, .slice s64.a s64.n s64.c, .slice s65.a s65.n s65.c], .int .i64 x66]) ∧ w60.heap[w.heap.size]? = w58.heap[w.heap.size]? ∧ w60.heap[w0.heap.size]? = w58.heap[w0.heap.size]? ∧ w60.heap[w1.heap.size]? = w58.heap[w1.heap.size]? ∧ w60.heap[w10.drew.heap.size]? = w58.heap[w10.drew.heap.size]? ∧
 ∀ w67 : World, w67 = w60.setRow w10.drew.heap.size #[.int .i64 x61, .int .i64 x62, .int .i64 x63, .slice s64.a s64.n s64.c, .slice s65.a s65.n s65.c] →
 ∀ w68 : World, w68 = w67.setRow w.heap.size #[.int .i64 a0_0, .int .i64 a0_1, .int .i64 x61, .int .i64 x62, .int .i64 x63, .slice s64.a s64.n s64.c, .slice s65.a s65.n s65.c, .slice a0_7.a a0_7.n a0_7.c] →
 ∀ w69 : World, w69 = w68.setRow w1.heap.size #[.int .i64 x2, .int .i64 x3, .slice s4.a s4.n s4.c, .bool ((x66 : Int) != 0), .int .i64 x6] →
 Calls Tryz.prog n_ref12_with #[.agg #[.int .i64 a0_0, .int .i64 a0_1, .int .i64 x61, .int .i64 x62, .int .i64 x63, .slice s64.a s64.n s64.c, .slice s65.a s65.n s65.c, .slice a0_7.a a0_7.n a0_7.c], .int .i64 a1, .agg #[.int .i64 x2, .int .i64 x3, .slice s4.a s4.n s4.c, .bool ((x66 : Int) != 0), .int .i64 x6]] w69 (fun e w70 => ∃ (x71 : Int) (x72 : Int) (x73 : Int) (x74 : Int) (x75 : Int) (s76 : Sl) (s77 : Sl) (s78 : Sl), e = .returned (.agg #[.int .i64 x71, .int .i64 x72, .int .i64 x73, .int .i64 x74, .int .i64 x75, .slice s76.a s76.n s76.c, .slice s77.a s77.n s77.c, .slice s78.a s78.n s78.c]) ∧ w70.heap[w.heap.size]? = w69.heap[w.heap.size]? ∧ w70.heap[w0.heap.size]? = w69.heap[w0.heap.size]? ∧ w70.heap[w1.heap.size]? = w69.heap[w1.heap.size]? ∧ w70.heap[w10.drew.heap.size]? = w69.heap[w10.drew.heap.size]? ∧
 ∀ w79 : World, w79 = w70.setRow w0.heap.size #[.int .i64 x71, .int .i64 x72, .int .i64 x73, .int .i64 x74, .int .i64 x75, .slice s76.a s76.n s76.c, .slice s77.a s77.n s77.c, .slice s78.a s78.n s78.c] →
 R (.returned (.tuple #[.agg #[.int .i64 x71, .int .i64 x72, .int .i64 x73, .int .i64 x74, .int .i64 x75, .slice s76.a s76.n s76.c, .slice s77.a s77.n s77.c, .slice s78.a s78.n s78.c], .int .i64 x66])) w79))))))
theorem ref12_save.vc {a0_0 a0_1 a0_2 a0_3 a0_4 a0_5 a0_6 a0_7 a1 w} {R : Ending → World → Prop} (h : ref12_save.pre a0_0 a0_1 a0_2 a0_3 a0_4 a0_5 a0_6 a0_7 a1 w R) : Calls Tryz.prog n_ref12_save #[.agg #[.int .i64 a0_0, .int .i64 a0_1, .int .i64 a0_2, .int .i64 a0_3, .int .i64 a0_4, .slice a0_5.a a0_5.n a0_5.c, .slice a0_6.a a0_6.n a0_6.c, .slice a0_7.a a0_7.n a0_7.c], .int .i64 a1] w R :=
 calls_of_eq (an := ⟨[], [], []⟩) (args := [.agg #[.int .i64 a0_0, .int .i64 a0_1, .int .i64 a0_2, .int .i64 a0_3, .int .i64 a0_4, .slice a0_5.a a0_5.n a0_5.c, .slice a0_6.a a0_6.n a0_6.c, .slice a0_7.a a0_7.n a0_7.c], .int .i64 a1]) Tryz.noNG Tryz.mixed Tryz.func125 h (by kernel_rfl)
def ref12_with.pre (a0_0 : Int) (a0_1 : Int) (a0_2 : Int) (a0_3 : Int) (a0_4 : Int) (a0_5 : Sl) (a0_6 : Sl) (a0_7 : Sl) (a1 : Int) (a2_0 : Int) (a2_1 : Int) (a2_2 : Sl) (a2_3 : Bool) (a2_4 : Int) (w : World) (R : Ending → World → Prop) : Prop :=
 ∀ w0 : World, w0 = w.alloc (.cells #[.int .i64 a0_0, .int .i64 a0_1, .int .i64 a0_2, .int .i64 a0_3, .int .i64 a0_4, .slice a0_5.a a0_5.n a0_5.c, .slice a0_6.a a0_6.n a0_6.c, .slice a0_7.a a0_7.n a0_7.c] 90) →
 ∀ w1 : World, w1 = w0.alloc (.cells #[.int .i64 a2_0, .int .i64 a2_1, .slice a2_2.a a2_2.n a2_2.c, .bool a2_3, .int .i64 a2_4] 148) →
 ∀ w2 : World, w2 = w1.alloc (.cells #[.int .i64 0, .int .i64 0, .int .i64 0, .int .i64 0, .int .i64 0, .slice none 0 0, .slice none 0 0, .slice none 0 0] 90) →
 ∃ l3 : List Value, Rd w2 a0_7.a l3 ∧ AppPre 56 5 w2 ⟨none, 0, 0⟩ a0_7.n l3 ∧ ∀ (s4 : Sl) (w5 : World), AppRes 148 5 w2 ⟨none, 0, 0⟩ a0_7.n l3 s4 w5 → w5.heap[w.heap.size]? = w2.heap[w.heap.size]? ∧ w5.heap[w0.heap.size]? = w2.heap[w0.heap.size]? ∧ w5.heap[w1.heap.size]? = w2.heap[w1.heap.size]? ∧
 InB s4.a a1 s4.n ∧ (((padd s4.a ((a1 : Int).toNat * 5))).isSome = true ∧ Wr w5 (padd s4.a ((a1 : Int).toNat * 5)) 5) ∧ pblk (padd s4.a ((a1 : Int).toNat * 5)) ≠ some w.heap.size ∧ pblk (padd s4.a ((a1 : Int).toNat * 5)) ≠ some w0.heap.size ∧ pblk (padd s4.a ((a1 : Int).toNat * 5)) ≠ some w1.heap.size ∧ (∀ w6 : World, w6 = setP w5 (padd s4.a ((a1 : Int).toNat * 5)) [.int .i64 a2_0, .int .i64 a2_1, .slice a2_2.a a2_2.n a2_2.c, .bool a2_3, .int .i64 a2_4] →
 ∀ w7 : World, w7 = w6.setRow w.heap.size #[.int .i64 a0_0, .int .i64 a0_1, .int .i64 a0_2, .int .i64 a0_3, .int .i64 a0_4, .slice a0_5.a a0_5.n a0_5.c, .slice a0_6.a a0_6.n a0_6.c, .slice s4.a s4.n s4.c] →
 ∀ w8 : World, w8 = w7.setRow w1.heap.size #[.int .i64 a0_0, .int .i64 a0_1, .int .i64 a0_2, .int .i64 a0_3, .int .i64 a0_4, .slice a0_5.a a0_5.n a0_5.c, .slice a0_6.a a0_6.n a0_6.c, .slice s4.a s4.n s4.c] →
 R (.returned (.agg #[.int .i64 a0_0, .int .i64 a0_1, .int .i64 a0_2, .int .i64 a0_3, .int .i64 a0_4, .slice a0_5.a a0_5.n a0_5.c, .slice a0_6.a a0_6.n a0_6.c, .slice s4.a s4.n s4.c])) w8)
theorem ref12_with.vc {a0_0 a0_1 a0_2 a0_3 a0_4 a0_5 a0_6 a0_7 a1 a2_0 a2_1 a2_2 a2_3 a2_4 w} {R : Ending → World → Prop} (h : ref12_with.pre a0_0 a0_1 a0_2 a0_3 a0_4 a0_5 a0_6 a0_7 a1 a2_0 a2_1 a2_2 a2_3 a2_4 w R) : Calls Tryz.prog n_ref12_with #[.agg #[.int .i64 a0_0, .int .i64 a0_1, .int .i64 a0_2, .int .i64 a0_3, .int .i64 a0_4, .slice a0_5.a a0_5.n a0_5.c, .slice a0_6.a a0_6.n a0_6.c, .slice a0_7.a a0_7.n a0_7.c], .int .i64 a1, .agg #[.int .i64 a2_0, .int .i64 a2_1, .slice a2_2.a a2_2.n a2_2.c, .bool a2_3, .int .i64 a2_4]] w R :=
 calls_of_eq (an := ⟨[], [], []⟩) (args := [.agg #[.int .i64 a0_0, .int .i64 a0_1, .int .i64 a0_2, .int .i64 a0_3, .int .i64 a0_4, .slice a0_5.a a0_5.n a0_5.c, .slice a0_6.a a0_6.n a0_6.c, .slice a0_7.a a0_7.n a0_7.c], .int .i64 a1, .agg #[.int .i64 a2_0, .int .i64 a2_1, .slice a2_2.a a2_2.n a2_2.c, .bool a2_3, .int .i64 a2_4]]) Tryz.noNG Tryz.mixed Tryz.func129 h (by kernel_rfl)
def ref09_Of.pre (a0_0 : Int) (a0_1 : Int) (a0_2 : Int) (a0_3 : Sl) (a0_4 : Sl) (a1 : Int) (w : World) (R : Ending → World → Prop) : Prop :=
 ∀ w0 : World, w0 = w.alloc (.cells #[.int .i64 a0_0, .int .i64 a0_1, .int .i64 a0_2, .slice a0_3.a a0_3.n a0_3.c, .slice a0_4.a a0_4.n a0_4.c] 87) →
 Calls Tryz.prog n_ref08_Get #[.agg #[.int .i64 a0_0, .int .i64 a0_1, .int .i64 a0_2, .slice a0_3.a a0_3.n a0_3.c, .slice a0_4.a a0_4.n a0_4.c], .int .i64 (IntKind.wrap .i64 (2 * a1))] w0 (fun e w1 => ∃ (s2 : Sl) (b3 : Bool), e = .returned (.tuple #[.slice s2.a s2.n s2.c, .bool b3]) ∧ w1.heap[w.heap.size]? = w0.heap[w.heap.size]? ∧
 Calls Tryz.prog n_ref08_Get #[.agg #[.int .i64 a0_0, .int .i64 a0_1, .int .i64 a0_2, .slice a0_3.a a0_3.n a0_3.c, .slice a0_4.a a0_4.n a0_4.c], .int .i64 (IntKind.wrap .i64 ((IntKind.wrap .i64 (2 * a1)) + 1))] w1 (fun e w4 => ∃ (s5 : Sl) (b6 : Bool), e = .returned (.tuple #[.slice s5.a s5.n s5.c, .bool b6]) ∧ w4.heap[w.heap.size]? = w1.heap[w.heap.size]? ∧
 Calls Tryz.prog n_ref09_Read #[.slice s2.a s2.n s2.c] w4 (fun e w7 => ∃ (x8 : Int) (s9 : Sl) (x10 : Int), e = .returned (.tuple #[.int .i64 x8, .slice s9.a s9.n s9.c, .int .i64 x10]) ∧ w7.heap[w.heap.size]? = w4.heap[w.heap.size]? ∧
 Calls Tryz.prog n_ref09_Read #[.slice s5.a s5.n s5.c] w7 (fun e w11 => ∃ (x12 : Int) (s13 : Sl) (x14 : Int), e = .returned (.tuple #[.int .i64 x12, .slice s13.a s13.n s13.c, .int .i64 x14]) ∧ w11.heap[w.heap.size]? = w7.heap[w.heap.size]? ∧
 Br ((x10 : Int) != 0)
 (Br ((x14 : Int) != 0)
 (R (.returned (.tuple #[.int .i64 (IntKind.wrap .i64 ((IntKind.wrap .i64 (2 * a1)) + 1)), .int .i64 0, .slice none 0 0])) w11)
 (Br ((x14 : Int) != 0)
 (R (.returned (.tuple #[.int .i64 (IntKind.wrap .i64 (2 * a1)), .int .i64 x8, .slice s9.a s9.n s9.c])) w11)
 (Br ((x10 : Int) == 0)
 (Br (decide ((x8 : Int) ≥ x12))
 (R (.returned (.tuple #[.int .i64 (IntKind.wrap .i64 (2 * a1)), .int .i64 x8, .slice s9.a s9.n s9.c])) w11)
 (R (.returned (.tuple #[.int .i64 (IntKind.wrap .i64 ((IntKind.wrap .i64 (2 * a1)) + 1)), .int .i64 x12, .slice s13.a s13.n s13.c])) w11))
 (R (.returned (.tuple #[.int .i64 (IntKind.wrap .i64 ((IntKind.wrap .i64 (2 * a1)) + 1)), .int .i64 x12, .slice s13.a s13.n s13.c])) w11))))
 (Br ((x14 : Int) != 0)
 (R (.returned (.tuple #[.int .i64 (IntKind.wrap .i64 (2 * a1)), .int .i64 x8, .slice s9.a s9.n s9.c])) w11)
 (Br ((x10 : Int) == 0)
 (Br (decide ((x8 : Int) ≥ x12))
 (R (.returned (.tuple #[.int .i64 (IntKind.wrap .i64 (2 * a1)), .int .i64 x8, .slice s9.a s9.n s9.c])) w11)
 (R (.returned (.tuple #[.int .i64 (IntKind.wrap .i64 ((IntKind.wrap .i64 (2 * a1)) + 1)), .int .i64 x12, .slice s13.a s13.n s13.c])) w11))
 (R (.returned (.tuple #[.int .i64 (IntKind.wrap .i64 ((IntKind.wrap .i64 (2 * a1)) + 1)), .int .i64 x12, .slice s13.a s13.n s13.c])) w11)))))))
theorem ref09_Of.vc {a0_0 a0_1 a0_2 a0_3 a0_4 a1 w} {R : Ending → World → Prop} (h : ref09_Of.pre a0_0 a0_1 a0_2 a0_3 a0_4 a1 w R) : Calls Tryz.prog n_ref09_Of #[.agg #[.int .i64 a0_0, .int .i64 a0_1, .int .i64 a0_2, .slice a0_3.a a0_3.n a0_3.c, .slice a0_4.a a0_4.n a0_4.c], .int .i64 a1] w R :=
 calls_of_eq (an := ⟨[], [], []⟩) (args := [.agg #[.int .i64 a0_0, .int .i64 a0_1, .int .i64 a0_2, .slice a0_3.a a0_3.n a0_3.c, .slice a0_4.a a0_4.n a0_4.c], .int .i64 a1]) Tryz.noNG Tryz.mixed Tryz.func132 h (by kernel_rfl)
def ref09_Write.pre (a0 : Int) (a1 : Sl) (w : World) (R : Ending → World → Prop) : Prop :=
 Br (decide ((a0 : Int) < 1))
 (R (.returned (.tuple #[.slice none 0 0, .int .i64 1])) w)
 (Br (decide ((a0 : Int) > 1073741824))
 (R (.returned (.tuple #[.slice none 0 0, .int .i64 1])) w)
 (Br (decide ((((a1.n : Nat) : Int) : Int) > 65536))
 (R (.returned (.tuple #[.slice none 0 0, .int .i64 1])) w)
 (Calls Tryz.prog n_ref09_digits #[.int .i64 a0, .int .i64 4] w (fun e w0 => ∃ (s1 : Sl), e = .returned (.slice s1.a s1.n s1.c) ∧
 Calls Tryz.prog n_ref09_digits #[.int .i64 ((a1.n : Nat) : Int), .int .i64 3] w0 (fun e w2 => ∃ (s3 : Sl), e = .returned (.slice s3.a s3.n s3.c) ∧
 ∃ l4 : List Value, Rd w2 s3.a l4 ∧ AppPre 1 1 w2 ⟨s1.a, s1.n, s1.c⟩ s3.n l4 ∧ ∀ (s5 : Sl) (w6 : World), AppRes 5 1 w2 ⟨s1.a, s1.n, s1.c⟩ s3.n l4 s5 w6 →
 ∃ l7 : List Value, Rd w6 a1.a l7 ∧ AppPre 1 1 w6 ⟨s5.a, s5.n, s5.c⟩ a1.n l7 ∧ ∀ (s8 : Sl) (w9 : World), AppRes 5 1 w6 ⟨s5.a, s5.n, s5.c⟩ a1.n l7 s8 w9 →
 Calls Tryz.prog n_ref07_Put #[.slice s8.a s8.n s8.c] w9 (fun e w10 => ∃ (s11 : Sl), e = .returned (.slice s11.a s11.n s11.c) ∧
 R (.returned (.tuple #[.slice s11.a s11.n s11.c, .int .i64 0])) w10))))))
theorem ref09_Write.vc {a0 a1 w} {R : Ending → World → Prop} (h : ref09_Write.pre a0 a1 w R) : Calls Tryz.prog n_ref09_Write #[.int .i64 a0, .slice a1.a a1.n a1.c] w R :=
 calls_of_eq (an := ⟨[], [], []⟩) (args := [.int .i64 a0, .slice a1.a a1.n a1.c]) Tryz.noNG Tryz.mixed Tryz.func133 h (by kernel_rfl)
def ref08_Put.pre (a0_0 : Int) (a0_1 : Int) (a0_2 : Int) (a0_3 : Sl) (a0_4 : Sl) (a1 : Int) (a2 : Sl) (w : World) (R : Ending → World → Prop) : Prop :=
 ∀ w0 : World, w0 = w.alloc (.cells #[.int .i64 a0_0, .int .i64 a0_1, .int .i64 a0_2, .slice a0_3.a a0_3.n a0_3.c, .slice a0_4.a a0_4.n a0_4.c] 87) →
 ∀ w1 : World, w1 = w0.alloc (.cells #[.int .i64 0, .int .i64 0, .int .i64 0, .slice none 0 0, .slice none 0 0] 87) →
 Calls Tryz.prog n_ref08_asked #[.agg #[.int .i64 a0_0, .int .i64 a0_1, .int .i64 a0_2, .slice a0_3.a a0_3.n a0_3.c, .slice a0_4.a a0_4.n a0_4.c]] w1 (fun e w2 => ∃ (x3 : Int) (x4 : Int) (x5 : Int) (s6 : Sl) (s7 : Sl) (b8 : Bool), e = .returned (.tuple #[.agg #[.int .i64 x3, .int .i64 x4, .int .i64 x5, .slice s6.a s6.n s6.c, .slice s7.a s7.n s7.c], .bool b8]) ∧ w2.heap[w.heap.size]? = w1.heap[w.heap.size]? ∧ w2.heap[w0.heap.size]? = w1.heap[w0.heap.size]? ∧
 ∀ w9 : World, w9 = w2.setRow w.heap.size #[.int .i64 x3, .int .i64 x4, .int .i64 x5, .slice s6.a s6.n s6.c, .slice s7.a s7.n s7.c] →
 Br b8
 (∀ w10 : World, w10 = w9.setRow w0.heap.size #[.int .i64 x3, .int .i64 x4, .int .i64 x5, .slice s6.a s6.n s6.c, .slice s7.a s7.n s7.c] →
 R (.returned (.tuple #[.agg #[.int .i64 x3, .int .i64 x4, .int .i64 x5, .slice s6.a s6.n s6.c, .slice s7.a s7.n s7.c], .int .i64 9])) w10)
 (∀ w11 : World, w11 = w9.alloc (.cells #[.int .i64 0, .slice none 0 0] 230) →
 ∀ w12 : World, w12 = w11.setRow w9.heap.size #[.int .i64 a1, .slice a2.a a2.n a2.c] →
 Calls Tryz.prog n_ref08_Now #[.agg #[.int .i64 x3, .int .i64 x4, .int .i64 x5, .slice s6.a s6.n s6.c, .slice s7.a s7.n s7.c]] w12.drew (fun e w13 => ∃ (s14 : Sl), e = .returned (.slice s14.a s14.n s14.c) ∧ w13.heap[w.heap.size]? = w12.drew.heap[w.heap.size]? ∧ w13.heap[w0.heap.size]? = w12.drew.heap[w0.heap.size]? ∧ w13.heap[w9.heap.size]? = w12.drew.heap[w9.heap.size]? ∧
 LoadL w13 (some ⟨w.heap.size, 0, none⟩) 0 [.int .i64 x3] ∧ LoadL w13 (some ⟨w9.heap.size, 0, none⟩) 0 [.int .i64 a1, .slice a2.a a2.n a2.c] ∧ Calls Tryz.prog n_ref08_Lay #[.slice s14.a s14.n s14.c, .agg #[.int .i64 a1, .slice a2.a a2.n a2.c]] w13 (fun e w15 => ∃ (s16 : Sl), e = .returned (.slice s16.a s16.n s16.c) ∧ w15.heap[w.heap.size]? = w13.heap[w.heap.size]? ∧ w15.heap[w0.heap.size]? = w13.heap[w0.heap.size]? ∧ w15.heap[w9.heap.size]? = w13.heap[w9.heap.size]? ∧
 LoadL w15 (some ⟨w.heap.size, 0, none⟩) 0 [.int .i64 x3] ∧ Calls Tryz.prog n_ref08_Len #[.slice s16.a s16.n s16.c] w15 (fun e w17 => ∃ (x18 : Int), e = .returned (.int .i64 x18) ∧ w17.heap[w.heap.size]? = w15.heap[w.heap.size]? ∧ w17.heap[w0.heap.size]? = w15.heap[w0.heap.size]? ∧ w17.heap[w9.heap.size]? = w15.heap[w9.heap.size]? ∧
 LoadL w17 (some ⟨w.heap.size, 0, none⟩) 0 [.int .i64 x3] ∧ Br (decide ((x18 : Int) > x3))
 (∀ w19 : World, w19 = w17.setRow w0.heap.size #[.int .i64 x3, .int .i64 x4, .int .i64 x5, .slice s6.a s6.n s6.c, .slice s7.a s7.n s7.c] →
 R (.returned (.tuple #[.agg #[.int .i64 x3, .int .i64 x4, .int .i64 x5, .slice s6.a s6.n s6.c, .slice s7.a s7.n s7.c], .int .i64 8])) w19)
 (∃ l20 : List Value, Rd w17 s7.a l20 ∧ AppPre 32 2 w17 ⟨none, 0, 0⟩ s7.n l20 ∧ ∀ (s21 : Sl) (w22 : World), AppRes 230 2 w17 ⟨none, 0, 0⟩ s7.n l20 s21 w22 → w22.heap[w.heap.size]? = w17.heap[w.heap.size]? ∧ w22.heap[w0.heap.size]? = w17.heap[w0.heap.size]? ∧ w22.heap[w9.heap.size]? = w17.heap[w9.heap.size]? ∧
 ∀ w23 : World, w23 = w22.alloc (.cells #[.int .i64 a1, .slice a2.a a2.n a2.c] 230) →
 AppPre 32 2 w23 ⟨s21.a, s21.n, s21.c⟩ 1 [.int .i64 a1, .slice a2.a a2.n a2.c] ∧ ∀ (s24 : Sl) (w25 : World), AppRes 230 2 w23 ⟨s21.a, s21.n, s21.c⟩ 1 [.int .i64 a1, .slice a2.a a2.n a2.c] s24 w25 → w25.heap[w.heap.size]? = w23.heap[w.heap.size]? ∧ w25.heap[w0.heap.size]? = w23.heap[w0.heap.size]? ∧ w25.heap[w9.heap.size]? = w23.heap[w9.heap.size]? ∧ w25.heap[w22.heap.size]? = w23.heap[w22.heap.size]? ∧
 ∀ w26 : World, w26 = w25.setRow w.heap.size #[.int .i64 x3, .int .i64 x4, .int .i64 x5, .slice s6.a s6.n s6.c, .slice s24.a s24.n s24.c] →
 ∀ w27 : World, w27 = w26.setRow w0.heap.size #[.int .i64 x3, .int .i64 x4, .int .i64 x5, .slice s6.a s6.n s6.c, .slice s24.a s24.n s24.c] →
 R (.returned (.tuple #[.agg #[.int .i64 x3, .int .i64 x4, .int .i64 x5, .slice s6.a s6.n s6.c, .slice s24.a s24.n s24.c], .int .i64 0])) w27))))))
theorem ref08_Put.vc {a0_0 a0_1 a0_2 a0_3 a0_4 a1 a2 w} {R : Ending → World → Prop} (h : ref08_Put.pre a0_0 a0_1 a0_2 a0_3 a0_4 a1 a2 w R) : Calls Tryz.prog n_ref08_Put #[.agg #[.int .i64 a0_0, .int .i64 a0_1, .int .i64 a0_2, .slice a0_3.a a0_3.n a0_3.c, .slice a0_4.a a0_4.n a0_4.c], .int .i64 a1, .slice a2.a a2.n a2.c] w R :=
 calls_of_eq (an := ⟨[], [], []⟩) (args := [.agg #[.int .i64 a0_0, .int .i64 a0_1, .int .i64 a0_2, .slice a0_3.a a0_3.n a0_3.c, .slice a0_4.a a0_4.n a0_4.c], .int .i64 a1, .slice a2.a a2.n a2.c]) Tryz.noNG Tryz.mixed Tryz.func134 h (by kernel_rfl)
def ref08_Sync.pre (a0_0 : Int) (a0_1 : Int) (a0_2 : Int) (a0_3 : Sl) (a0_4 : Sl) (w : World) (R : Ending → World → Prop) : Prop :=
 ∀ w0 : World, w0 = w.alloc (.cells #[.int .i64 a0_0, .int .i64 a0_1, .int .i64 a0_2, .slice a0_3.a a0_3.n a0_3.c, .slice a0_4.a a0_4.n a0_4.c] 87) →
 ∀ w1 : World, w1 = w0.alloc (.cells #[.int .i64 0, .int .i64 0, .int .i64 0, .slice none 0 0, .slice none 0 0] 87) →
 Calls Tryz.prog n_ref08_asked #[.agg #[.int .i64 a0_0, .int .i64 a0_1, .int .i64 a0_2, .slice a0_3.a a0_3.n a0_3.c, .slice a0_4.a a0_4.n a0_4.c]] w1 (fun e w2 => ∃ (x3 : Int) (x4 : Int) (x5 : Int) (s6 : Sl) (s7 : Sl) (b8 : Bool), e = .returned (.tuple #[.agg #[.int .i64 x3, .int .i64 x4, .int .i64 x5, .slice s6.a s6.n s6.c, .slice s7.a s7.n s7.c], .bool b8]) ∧ w2.heap[w.heap.size]? = w1.heap[w.heap.size]? ∧ w2.heap[w0.heap.size]? = w1.heap[w0.heap.size]? ∧
 ∀ w9 : World, w9 = w2.setRow w.heap.size #[.int .i64 x3, .int .i64 x4, .int .i64 x5, .slice s6.a s6.n s6.c, .slice s7.a s7.n s7.c] →
 Br b8
 (∀ w10 : World, w10 = w9.setRow w0.heap.size #[.int .i64 x3, .int .i64 x4, .int .i64 x5, .slice s6.a s6.n s6.c, .slice s7.a s7.n s7.c] →
 R (.returned (.tuple #[.agg #[.int .i64 x3, .int .i64 x4, .int .i64 x5, .slice s6.a s6.n s6.c, .slice s7.a s7.n s7.c], .int .i64 9])) w10)
 (Calls Tryz.prog n_ref08_Now #[.agg #[.int .i64 x3, .int .i64 x4, .int .i64 x5, .slice s6.a s6.n s6.c, .slice s7.a s7.n s7.c]] w9 (fun e w11 => ∃ (s12 : Sl), e = .returned (.slice s12.a s12.n s12.c) ∧ w11.heap[w.heap.size]? = w9.heap[w.heap.size]? ∧ w11.heap[w0.heap.size]? = w9.heap[w0.heap.size]? ∧
 ∀ w13 : World, w13 = w11.setRow w.heap.size #[.int .i64 x3, .int .i64 x4, .int .i64 x5, .slice s12.a s12.n s12.c, .slice s7.a s7.n s7.c] →
 ∀ w14 : World, w14 = w13.setRow w.heap.size #[.int .i64 x3, .int .i64 x4, .int .i64 x5, .slice s12.a s12.n s12.c, .slice none 0 0] →
 ∀ w15 : World, w15 = w14.setRow w0.heap.size #[.int .i64 x3, .int .i64 x4, .int .i64 x5, .slice s12.a s12.n s12.c, .slice none 0 0] →
 R (.returned (.tuple #[.agg #[.int .i64 x3, .int .i64 x4, .int .i64 x5, .slice s12.a s12.n s12.c, .slice none 0 0], .int .i64 0])) w15)))
theorem ref08_Sync.vc {a0_0 a0_1 a0_2 a0_3 a0_4 w} {R : Ending → World → Prop} (h : ref08_Sync.pre a0_0 a0_1 a0_2 a0_3 a0_4 w R) : Calls Tryz.prog n_ref08_Sync #[.agg #[.int .i64 a0_0, .int .i64 a0_1, .int .i64 a0_2, .slice a0_3.a a0_3.n a0_3.c, .slice a0_4.a a0_4.n a0_4.c]] w R :=
 calls_of_eq (an := ⟨[], [], []⟩) (args := [.agg #[.int .i64 a0_0, .int .i64 a0_1, .int .i64 a0_2, .slice a0_3.a a0_3.n a0_3.c, .slice a0_4.a a0_4.n a0_4.c]]) Tryz.noNG Tryz.mixed Tryz.func135 h (by kernel_rfl)
def ref08_Get.pre (a0_0 : Int) (a0_1 : Int) (a0_2 : Int) (a0_3 : Sl) (a0_4 : Sl) (a1 : Int) (w : World) (R : Ending → World → Prop) : Prop :=
 ∀ w0 : World, w0 = w.alloc (.cells #[.int .i64 a0_0, .int .i64 a0_1, .int .i64 a0_2, .slice a0_3.a a0_3.n a0_3.c, .slice a0_4.a a0_4.n a0_4.c] 87) →
 Calls Tryz.prog n_ref08_Now #[.agg #[.int .i64 a0_0, .int .i64 a0_1, .int .i64 a0_2, .slice a0_3.a a0_3.n a0_3.c, .slice a0_4.a a0_4.n a0_4.c]] w0 (fun e w1 => ∃ (s2 : Sl), e = .returned (.slice s2.a s2.n s2.c) ∧ w1.heap[w.heap.size]? = w0.heap[w.heap.size]? ∧
 ∃ I3 : Nat → Int → World → Prop,
 (∃ n4, ([.int .i64 a0_0, .int .i64 a0_1, .int .i64 a0_2, .slice a0_3.a a0_3.n a0_3.c, .slice a0_4.a a0_4.n a0_4.c] : List Value) = [.int .i64 a0_0, .int .i64 a0_1, .int .i64 a0_2, .slice a0_3.a a0_3.n a0_3.c, .slice a0_4.a a0_4.n a0_4.c] ∧ I3 n4 (0) w1) ∧
 ∀ (n4 : Nat) (us5 : Nat → Value) (x6 : Int) (w7 : World), I3 n4 x6 w7 →
 Br (decide ((x6 : Int) < ((s2.n : Nat) : Int)))
 (InB s2.a x6 s2.n ∧ AndL (nnC (padd s2.a ((x6 : Int).toNat * 2))) (∃ (x9 : Int), ld w7 (padd (padd s2.a ((x6 : Int).toNat * 2)) 0) = some (.int .i64 x9) ∧
 Br ((x9 : Int) == a1)
 (InB s2.a x6 s2.n ∧ AndL (nnC (padd s2.a ((x6 : Int).toNat * 2))) (∃ (s10 : Sl), ld w7 (padd (padd s2.a ((x6 : Int).toNat * 2)) 1) = some (.slice s10.a s10.n s10.c) ∧
 R (.returned (.tuple #[.slice s10.a s10.n s10.c, .bool true])) w7))
 (∃ n8, n8 < n4 ∧ ([.int .i64 a0_0, .int .i64 a0_1, .int .i64 a0_2, .slice a0_3.a a0_3.n a0_3.c, .slice a0_4.a a0_4.n a0_4.c] : List Value) = [.int .i64 a0_0, .int .i64 a0_1, .int .i64 a0_2, .slice a0_3.a a0_3.n a0_3.c, .slice a0_4.a a0_4.n a0_4.c] ∧ I3 n8 ((IntKind.wrap .i64 (x6 + 1))) w7)))
 (R (.returned (.tuple #[.slice none 0 0, .bool false])) w7))
theorem ref08_Get.vc {a0_0 a0_1 a0_2 a0_3 a0_4 a1 w} {R : Ending → World → Prop} (h : ref08_Get.pre a0_0 a0_1 a0_2 a0_3 a0_4 a1 w R) : Calls Tryz.prog n_ref08_Get #[.agg #[.int .i64 a0_0, .int .i64 a0_1, .int .i64 a0_2, .slice a0_3.a a0_3.n a0_3.c, .slice a0_4.a a0_4.n a0_4.c], .int .i64 a1] w R :=
 calls_of_eq (an := ⟨[(3, ⟨[(7, .int .i64)], [], []⟩)], [], []⟩) (args := [.agg #[.int .i64 a0_0, .int .i64 a0_1, .int .i64 a0_2, .slice a0_3.a a0_3.n a0_3.c, .slice a0_4.a a0_4.n a0_4.c], .int .i64 a1]) Tryz.noNG Tryz.mixed Tryz.func157 h (by kernel_rfl)
def ref09_Read.pre (a0 : Sl) (w : World) (R : Ending → World → Prop) : Prop :=
 Calls Tryz.prog n_ref07_Take #[.slice a0.a a0.n a0.c] w (fun e w0 => ∃ (s1 : Sl) (x2 : Int), e = .returned (.tuple #[.slice s1.a s1.n s1.c, .int .i64 x2]) ∧
 Br ((x2 : Int) != 0)
 (R (.returned (.tuple #[.int .i64 0, .slice none 0 0, .int .i64 x2])) w0)
 (Br (decide ((((s1.n : Nat) : Int) : Int) < 7))
 (R (.returned (.tuple #[.int .i64 0, .slice none 0 0, .int .i64 3])) w0)
 ((0 : Int) ≤ 4 ∧ 4 ≤ ((s1.c : Nat) : Int) ∧ Calls Tryz.prog n_ref09_num #[.slice (slBase s1.a (0) (s1.c) 1) ((4 : Int).toNat - 0) (s1.c - 0)] w0 (fun e w3 => ∃ (x4 : Int), e = .returned (.int .i64 x4) ∧
 (0 : Int) ≤ 7 ∧ 7 ≤ ((s1.c : Nat) : Int) ∧ (0 : Int) ≤ 4 ∧ (4 : Int) ≤ 7 ∧ Calls Tryz.prog n_ref09_num #[.slice (slBase s1.a ((4 : Int).toNat) (s1.c) 1) ((7 : Int).toNat - (4 : Int).toNat) (s1.c - (4 : Int).toNat)] w3 (fun e w5 => ∃ (x6 : Int), e = .returned (.int .i64 x6) ∧
 Br (decide ((x4 : Int) < 1))
 (R (.returned (.tuple #[.int .i64 0, .slice none 0 0, .int .i64 2])) w5)
 (Br (decide ((x4 : Int) > 1073741824))
 (R (.returned (.tuple #[.int .i64 0, .slice none 0 0, .int .i64 2])) w5)
 (Br (decide ((x6 : Int) > 65536))
 (R (.returned (.tuple #[.int .i64 0, .slice none 0 0, .int .i64 2])) w5)
 (Br ((x6 : Int) != (IntKind.wrap .i64 (((s1.n : Nat) : Int) - 7)))
 (R (.returned (.tuple #[.int .i64 0, .slice none 0 0, .int .i64 2])) w5)
 ((0 : Int) ≤ 7 ∧ 7 ≤ ((s1.n : Nat) : Int) ∧ R (.returned (.tuple #[.int .i64 x4, .slice (slBase s1.a ((7 : Int).toNat) (s1.c) 1) (s1.n - (7 : Int).toNat) (s1.c - (7 : Int).toNat), .int .i64 0])) w5.drew)))))))))
theorem ref09_Read.vc {a0 w} {R : Ending → World → Prop} (h : ref09_Read.pre a0 w R) : Calls Tryz.prog n_ref09_Read #[.slice a0.a a0.n a0.c] w R :=
 calls_of_eq (an := ⟨[], [], []⟩) (args := [.slice a0.a a0.n a0.c]) Tryz.noNG Tryz.mixed Tryz.func158 h (by kernel_rfl)
def ref09_digits.pre (a0 : Int) (a1 : Int) (w : World) (R : Ending → World → Prop) : Prop :=
 ∃ I0 : Nat → Int → Int → World → Prop,
 (∃ n1, I0 n1 (1) (1) w) ∧
 ∀ (n1 : Nat) (us2 : Nat → Value) (x3 : Int) (x4 : Int) (w5 : World), I0 n1 x3 x4 w5 →
 Br (decide ((x3 : Int) < a1))
 (∃ n6, n6 < n1 ∧ I0 n6 ((IntKind.wrap .i64 (x3 + 1))) ((IntKind.wrap .i64 (x4 * 256))) w5)
 (∃ I7 : Nat → Int → Sl → Int → World → Prop,
 (∃ n8, I7 n8 (0) ⟨none, 0, 0⟩ (x4) w5) ∧
 ∀ (n8 : Nat) (us9 : Nat → Value) (x10 : Int) (s11 : Sl) (x12 : Int) (w13 : World), I7 n8 x10 s11 x12 w13 →
 Br (decide ((x10 : Int) < a1))
 (AndL (nzC x12) (∀ w15 : World, w15 = w13.alloc (.cells #[.int .u8 (IntKind.wrap .u8 (Int.tmod (IntKind.wrap .i64 (Int.tdiv a0 x12)) 256))] 5) →
 AppPre 1 1 w15 ⟨s11.a, s11.n, s11.c⟩ 1 [.int .u8 (IntKind.wrap .u8 (Int.tmod (IntKind.wrap .i64 (Int.tdiv a0 x12)) 256))] ∧ ∀ (s16 : Sl) (w17 : World), AppRes 5 1 w15 ⟨s11.a, s11.n, s11.c⟩ 1 [.int .u8 (IntKind.wrap .u8 (Int.tmod (IntKind.wrap .i64 (Int.tdiv a0 x12)) 256))] s16 w17 → w17.heap[w13.heap.size]? = w15.heap[w13.heap.size]? ∧
 ∃ n14, n14 < n8 ∧ I7 n14 ((IntKind.wrap .i64 (x10 + 1))) ⟨s16.a, s16.n, s16.c⟩ ((IntKind.wrap .i64 (Int.tdiv x12 256))) w17))
 (R (.returned (.slice s11.a s11.n s11.c)) w13))
theorem ref09_digits.vc {a0 a1 w} {R : Ending → World → Prop} (h : ref09_digits.pre a0 a1 w R) : Calls Tryz.prog n_ref09_digits #[.int .i64 a0, .int .i64 a1] w R :=
 calls_of_eq (an := ⟨[(8, ⟨[(8, .int .i64), (5, .slice), (6, .int .i64)], [], []⟩), (4, ⟨[(7, .int .i64), (6, .int .i64)], [], []⟩)], [], []⟩) (args := [.int .i64 a0, .int .i64 a1]) Tryz.noNG Tryz.mixed Tryz.func159 h (by kernel_rfl)
def ref07_Put.pre (a0 : Sl) (w : World) (R : Ending → World → Prop) : Prop :=
 Calls Tryz.prog n_ref07_Of #[.slice a0.a a0.n a0.c] w (fun e w0 => ∃ (x1 : Int), e = .returned (.int .i64 x1) ∧
 ∃ l2 : List Value, Rd w0 a0.a l2 ∧ AppPre 1 1 w0 ⟨none, 0, 0⟩ a0.n l2 ∧ ∀ (s3 : Sl) (w4 : World), AppRes 5 1 w0 ⟨none, 0, 0⟩ a0.n l2 s3 w4 →
 ∀ w5 : World, w5 = w4.alloc (.cells #[.int .u8 (IntKind.wrap .u8 (IntKind.wrap .i64 (Int.tdiv x1 256))), .int .u8 (IntKind.wrap .u8 (Int.tmod x1 256))] 5) →
 AppPre 1 1 w5 ⟨s3.a, s3.n, s3.c⟩ 2 [.int .u8 (IntKind.wrap .u8 (IntKind.wrap .i64 (Int.tdiv x1 256))), .int .u8 (IntKind.wrap .u8 (Int.tmod x1 256))] ∧ ∀ (s6 : Sl) (w7 : World), AppRes 5 1 w5 ⟨s3.a, s3.n, s3.c⟩ 2 [.int .u8 (IntKind.wrap .u8 (IntKind.wrap .i64 (Int.tdiv x1 256))), .int .u8 (IntKind.wrap .u8 (Int.tmod x1 256))] s6 w7 → w7.heap[w4.heap.size]? = w5.heap[w4.heap.size]? ∧
 R (.returned (.slice s6.a s6.n s6.c)) w7)
theorem ref07_Put.vc {a0 w} {R : Ending → World → Prop} (h : ref07_Put.pre a0 w R) : Calls Tryz.prog n_ref07_Put #[.slice a0.a a0.n a0.c] w R :=
 calls_of_eq (an := ⟨[], [], []⟩) (args := [.slice a0.a a0.n a0.c]) Tryz.noNG Tryz.mixed Tryz.func160 h (by kernel_rfl)
def ref08_asked.pre (a0_0 : Int) (a0_1 : Int) (a0_2 : Int) (a0_3 : Sl) (a0_4 : Sl) (w : World) (R : Ending → World → Prop) : Prop :=
 ∀ w0 : World, w0 = w.alloc (.cells #[.int .i64 a0_0, .int .i64 a0_1, .int .i64 a0_2, .slice a0_3.a a0_3.n a0_3.c, .slice a0_4.a a0_4.n a0_4.c] 87) →
 ∀ w1 : World, w1 = w0.alloc (.cells #[.int .i64 0, .int .i64 0, .int .i64 0, .slice none 0 0, .slice none 0 0] 87) →
 Br (decide ((a0_2 : Int) > 0))
 (∀ w2 : World, w2 = w1.setRow w.heap.size #[.int .i64 a0_0, .int .i64 a0_1, .int .i64 0, .slice a0_3.a a0_3.n a0_3.c, .slice a0_4.a a0_4.n a0_4.c] →
 ∀ w3 : World, w3 = w2.setRow w0.heap.size #[.int .i64 a0_0, .int .i64 a0_1, .int .i64 0, .slice a0_3.a a0_3.n a0_3.c, .slice a0_4.a a0_4.n a0_4.c] →
 R (.returned (.tuple #[.agg #[.int .i64 a0_0, .int .i64 a0_1, .int .i64 0, .slice a0_3.a a0_3.n a0_3.c, .slice a0_4.a a0_4.n a0_4.c], .bool false])) w3)
 (Br (decide ((a0_1 : Int) > 0))
 (∀ w4 : World, w4 = w1.setRow w.heap.size #[.int .i64 a0_0, .int .i64 (IntKind.wrap .i64 (a0_1 - 1)), .int .i64 a0_2, .slice a0_3.a a0_3.n a0_3.c, .slice a0_4.a a0_4.n a0_4.c] →
 ∀ w5 : World, w5 = w4.setRow w0.heap.size #[.int .i64 a0_0, .int .i64 (IntKind.wrap .i64 (a0_1 - 1)), .int .i64 a0_2, .slice a0_3.a a0_3.n a0_3.c, .slice a0_4.a a0_4.n a0_4.c] →
 R (.returned (.tuple #[.agg #[.int .i64 a0_0, .int .i64 (IntKind.wrap .i64 (a0_1 - 1)), .int .i64 a0_2, .slice a0_3.a a0_3.n a0_3.c, .slice a0_4.a a0_4.n a0_4.c], .bool true])) w5)
 (∀ w6 : World, w6 = w1.setRow w0.heap.size #[.int .i64 a0_0, .int .i64 a0_1, .int .i64 a0_2, .slice a0_3.a a0_3.n a0_3.c, .slice a0_4.a a0_4.n a0_4.c] →
 R (.returned (.tuple #[.agg #[.int .i64 a0_0, .int .i64 a0_1, .int .i64 a0_2, .slice a0_3.a a0_3.n a0_3.c, .slice a0_4.a a0_4.n a0_4.c], .bool false])) w6))
theorem ref08_asked.vc {a0_0 a0_1 a0_2 a0_3 a0_4 w} {R : Ending → World → Prop} (h : ref08_asked.pre a0_0 a0_1 a0_2 a0_3 a0_4 w R) : Calls Tryz.prog n_ref08_asked #[.agg #[.int .i64 a0_0, .int .i64 a0_1, .int .i64 a0_2, .slice a0_3.a a0_3.n a0_3.c, .slice a0_4.a a0_4.n a0_4.c]] w R :=
 calls_of_eq (an := ⟨[], [], []⟩) (args := [.agg #[.int .i64 a0_0, .int .i64 a0_1, .int .i64 a0_2, .slice a0_3.a a0_3.n a0_3.c, .slice a0_4.a a0_4.n a0_4.c]]) Tryz.noNG Tryz.mixed Tryz.func161 h (by kernel_rfl)
def ref08_Len.pre (a0 : Sl) (w : World) (R : Ending → World → Prop) : Prop :=
 ∃ I0 : Nat → Int → Int → World → Prop,
 (∃ n1, I0 n1 (0) (0) w) ∧
 ∀ (n1 : Nat) (us2 : Nat → Value) (x3 : Int) (x4 : Int) (w5 : World), I0 n1 x3 x4 w5 →
 Br (decide ((x3 : Int) < ((a0.n : Nat) : Int)))
 (InB a0.a x3 a0.n ∧ AndL (nnC (padd a0.a ((x3 : Int).toNat * 2))) (∃ (s7 : Sl), ld w5 (padd (padd a0.a ((x3 : Int).toNat * 2)) 1) = some (.slice s7.a s7.n s7.c) ∧
 ∃ n6, n6 < n1 ∧ I0 n6 ((IntKind.wrap .i64 (x3 + 1))) ((IntKind.wrap .i64 (x4 + ((s7.n : Nat) : Int)))) w5))
 (R (.returned (.int .i64 x4)) w5)
theorem ref08_Len.vc {a0 w} {R : Ending → World → Prop} (h : ref08_Len.pre a0 w R) : Calls Tryz.prog n_ref08_Len #[.slice a0.a a0.n a0.c] w R :=
 calls_of_eq (an := ⟨[(3, ⟨[(4, .int .i64), (3, .int .i64)], [], []⟩)], [], []⟩) (args := [.slice a0.a a0.n a0.c]) Tryz.noNG Tryz.mixed Tryz.func162 h (by kernel_rfl)
def ref08_Lay.pre (a0 : Sl) (a1_0 : Int) (a1_1 : Sl) (w : World) (R : Ending → World → Prop) : Prop :=
 ∀ w0 : World, w0 = w.alloc (.cells #[.int .i64 a1_0, .slice a1_1.a a1_1.n a1_1.c] 230) →
 ∃ I1 : Nat → Int → Bool → Sl → World → Prop,
 (∃ n2, ([.int .i64 a1_0, .slice a1_1.a a1_1.n a1_1.c] : List Value) = [.int .i64 a1_0, .slice a1_1.a a1_1.n a1_1.c] ∧ I1 n2 (0) false ⟨none, 0, 0⟩ w0) ∧
 ∀ (n2 : Nat) (us3 : Nat → Value) (x4 : Int) (b5 : Bool) (s6 : Sl) (w7 : World), I1 n2 x4 b5 s6 w7 →
 Br (decide ((x4 : Int) < ((a0.n : Nat) : Int)))
 (Br (!b5)
 (InB a0.a x4 a0.n ∧ AndL (nnC (padd a0.a ((x4 : Int).toNat * 2))) (∃ (x9 : Int), ld w7.drew (padd (padd a0.a ((x4 : Int).toNat * 2)) 0) = some (.int .i64 x9) ∧
 Br (decide ((x9 : Int) ≥ a1_0))
 (∀ w10 : World, w10 = w7.drew.alloc (.cells #[.int .i64 a1_0, .slice a1_1.a a1_1.n a1_1.c] 230) →
 AppPre 32 2 w10 ⟨s6.a, s6.n, s6.c⟩ 1 [.int .i64 a1_0, .slice a1_1.a a1_1.n a1_1.c] ∧ ∀ (s11 : Sl) (w12 : World), AppRes 230 2 w10 ⟨s6.a, s6.n, s6.c⟩ 1 [.int .i64 a1_0, .slice a1_1.a a1_1.n a1_1.c] s11 w12 → w12.heap[w.heap.size]? = w10.heap[w.heap.size]? ∧ w12.heap[w7.drew.heap.size]? = w10.heap[w7.drew.heap.size]? ∧
 InB a0.a x4 a0.n ∧ AndL (nnC (padd a0.a ((x4 : Int).toNat * 2))) (∃ (x13 : Int), ld w12.drew (padd (padd a0.a ((x4 : Int).toNat * 2)) 0) = some (.int .i64 x13) ∧
 Br ((x13 : Int) != a1_0)
 (InB a0.a x4 a0.n ∧ ∃ (x14 : Int) (s15 : Sl), LoadL w12.drew (padd a0.a ((x4 : Int).toNat * 2)) 0 [.int .i64 x14, .slice s15.a s15.n s15.c] ∧
 ∀ w16 : World, w16 = w12.drew.alloc (.cells #[.int .i64 x14, .slice s15.a s15.n s15.c] 230) →
 AppPre 32 2 w16 ⟨s11.a, s11.n, s11.c⟩ 1 [.int .i64 x14, .slice s15.a s15.n s15.c] ∧ ∀ (s17 : Sl) (w18 : World), AppRes 230 2 w16 ⟨s11.a, s11.n, s11.c⟩ 1 [.int .i64 x14, .slice s15.a s15.n s15.c] s17 w18 → w18.heap[w.heap.size]? = w16.heap[w.heap.size]? ∧ w18.heap[w7.drew.heap.size]? = w16.heap[w7.drew.heap.size]? ∧ w18.heap[w12.drew.heap.size]? = w16.heap[w12.drew.heap.size]? ∧
 ∃ n8, n8 < n2 ∧ ([.int .i64 a1_0, .slice a1_1.a a1_1.n a1_1.c] : List Value) = [.int .i64 a1_0, .slice a1_1.a a1_1.n a1_1.c] ∧ I1 n8 ((IntKind.wrap .i64 (x4 + 1))) true ⟨s17.a, s17.n, s17.c⟩ w18)
 (∃ n8, n8 < n2 ∧ ([.int .i64 a1_0, .slice a1_1.a a1_1.n a1_1.c] : List Value) = [.int .i64 a1_0, .slice a1_1.a a1_1.n a1_1.c] ∧ I1 n8 ((IntKind.wrap .i64 (x4 + 1))) true ⟨s11.a, s11.n, s11.c⟩ w12.drew)))
 (InB a0.a x4 a0.n ∧ AndL (nnC (padd a0.a ((x4 : Int).toNat * 2))) (∃ (x19 : Int), ld w7.drew.drew (padd (padd a0.a ((x4 : Int).toNat * 2)) 0) = some (.int .i64 x19) ∧
 Br ((x19 : Int) != a1_0)
 (InB a0.a x4 a0.n ∧ ∃ (x20 : Int) (s21 : Sl), LoadL w7.drew.drew (padd a0.a ((x4 : Int).toNat * 2)) 0 [.int .i64 x20, .slice s21.a s21.n s21.c] ∧
 ∀ w22 : World, w22 = w7.drew.drew.alloc (.cells #[.int .i64 x20, .slice s21.a s21.n s21.c] 230) →
 AppPre 32 2 w22 ⟨s6.a, s6.n, s6.c⟩ 1 [.int .i64 x20, .slice s21.a s21.n s21.c] ∧ ∀ (s23 : Sl) (w24 : World), AppRes 230 2 w22 ⟨s6.a, s6.n, s6.c⟩ 1 [.int .i64 x20, .slice s21.a s21.n s21.c] s23 w24 → w24.heap[w.heap.size]? = w22.heap[w.heap.size]? ∧ w24.heap[w7.drew.drew.heap.size]? = w22.heap[w7.drew.drew.heap.size]? ∧
 ∃ n8, n8 < n2 ∧ ([.int .i64 a1_0, .slice a1_1.a a1_1.n a1_1.c] : List Value) = [.int .i64 a1_0, .slice a1_1.a a1_1.n a1_1.c] ∧ I1 n8 ((IntKind.wrap .i64 (x4 + 1))) b5 ⟨s23.a, s23.n, s23.c⟩ w24)
 (∃ n8, n8 < n2 ∧ ([.int .i64 a1_0, .slice a1_1.a a1_1.n a1_1.c] : List Value) = [.int .i64 a1_0, .slice a1_1.a a1_1.n a1_1.c] ∧ I1 n8 ((IntKind.wrap .i64 (x4 + 1))) b5 ⟨s6.a, s6.n, s6.c⟩ w7.drew.drew)))))
 (InB a0.a x4 a0.n ∧ AndL (nnC (padd a0.a ((x4 : Int).toNat * 2))) (∃ (x25 : Int), ld w7.drew.drew (padd (padd a0.a ((x4 : Int).toNat * 2)) 0) = some (.int .i64 x25) ∧
 Br ((x25 : Int) != a1_0)
 (InB a0.a x4 a0.n ∧ ∃ (x26 : Int) (s27 : Sl), LoadL w7.drew.drew (padd a0.a ((x4 : Int).toNat * 2)) 0 [.int .i64 x26, .slice s27.a s27.n s27.c] ∧
 ∀ w28 : World, w28 = w7.drew.drew.alloc (.cells #[.int .i64 x26, .slice s27.a s27.n s27.c] 230) →
 AppPre 32 2 w28 ⟨s6.a, s6.n, s6.c⟩ 1 [.int .i64 x26, .slice s27.a s27.n s27.c] ∧ ∀ (s29 : Sl) (w30 : World), AppRes 230 2 w28 ⟨s6.a, s6.n, s6.c⟩ 1 [.int .i64 x26, .slice s27.a s27.n s27.c] s29 w30 → w30.heap[w.heap.size]? = w28.heap[w.heap.size]? ∧ w30.heap[w7.drew.drew.heap.size]? = w28.heap[w7.drew.drew.heap.size]? ∧
 ∃ n8, n8 < n2 ∧ ([.int .i64 a1_0, .slice a1_1.a a1_1.n a1_1.c] : List Value) = [.int .i64 a1_0, .slice a1_1.a a1_1.n a1_1.c] ∧ I1 n8 ((IntKind.wrap .i64 (x4 + 1))) b5 ⟨s29.a, s29.n, s29.c⟩ w30)
 (∃ n8, n8 < n2 ∧ ([.int .i64 a1_0, .slice a1_1.a a1_1.n a1_1.c] : List Value) = [.int .i64 a1_0, .slice a1_1.a a1_1.n a1_1.c] ∧ I1 n8 ((IntKind.wrap .i64 (x4 + 1))) b5 ⟨s6.a, s6.n, s6.c⟩ w7.drew.drew))))
 (Br (!b5)
 (∀ w31 : World, w31 = w7.alloc (.cells #[.int .i64 a1_0, .slice a1_1.a a1_1.n a1_1.c] 230) →
 AppPre 32 2 w31 ⟨s6.a, s6.n, s6.c⟩ 1 [.int .i64 a1_0, .slice a1_1.a a1_1.n a1_1.c] ∧ ∀ (s32 : Sl) (w33 : World), AppRes 230 2 w31 ⟨s6.a, s6.n, s6.c⟩ 1 [.int .i64 a1_0, .slice a1_1.a a1_1.n a1_1.c] s32 w33 → w33.heap[w.heap.size]? = w31.heap[w.heap.size]? ∧ w33.heap[w7.heap.size]? = w31.heap[w7.heap.size]? ∧
 R (.returned (.slice s32.a s32.n s32.c)) w33)
 (R (.returned (.slice s6.a s6.n s6.c)) w7))
theorem ref08_Lay.vc {a0 a1_0 a1_1 w} {R : Ending → World → Prop} (h : ref08_Lay.pre a0 a1_0 a1_1 w R) : Calls Tryz.prog n_ref08_Lay #[.slice a0.a a0.n a0.c, .agg #[.int .i64 a1_0, .slice a1_1.a a1_1.n a1_1.c]] w R :=
 calls_of_eq (an := ⟨[(4, ⟨[(7, .int .i64), (6, .bool), (5, .slice)], [], []⟩)], [], []⟩) (args := [.slice a0.a a0.n a0.c, .agg #[.int .i64 a1_0, .slice a1_1.a a1_1.n a1_1.c]]) Tryz.noNG Tryz.mixed Tryz.func163 h (by kernel_rfl)
def ref08_Now.pre (a0_0 : Int) (a0_1 : Int) (a0_2 : Int) (a0_3 : Sl) (a0_4 : Sl) (w : World) (R : Ending → World → Prop) : Prop :=
 ∀ w0 : World, w0 = w.alloc (.cells #[.int .i64 a0_0, .int .i64 a0_1, .int .i64 a0_2, .slice a0_3.a a0_3.n a0_3.c, .slice a0_4.a a0_4.n a0_4.c] 87) →
 ∃ I1 : Nat → Int → Sl → World → Prop,
 (∃ n2, ([.int .i64 a0_0, .int .i64 a0_1, .int .i64 a0_2, .slice a0_3.a a0_3.n a0_3.c, .slice a0_4.a a0_4.n a0_4.c] : List Value) = [.int .i64 a0_0, .int .i64 a0_1, .int .i64 a0_2, .slice a0_3.a a0_3.n a0_3.c, .slice a0_4.a a0_4.n a0_4.c] ∧ I1 n2 (0) ⟨a0_3.a, a0_3.n, a0_3.c⟩ w0) ∧
 ∀ (n2 : Nat) (us3 : Nat → Value) (x4 : Int) (s5 : Sl) (w6 : World), I1 n2 x4 s5 w6 →
 Br (decide ((x4 : Int) < ((a0_4.n : Nat) : Int)))
 (InB a0_4.a x4 a0_4.n ∧ ∃ (x8 : Int) (s9 : Sl), LoadL w6 (padd a0_4.a ((x4 : Int).toNat * 2)) 0 [.int .i64 x8, .slice s9.a s9.n s9.c] ∧
 Calls Tryz.prog n_ref08_Lay #[.slice s5.a s5.n s5.c, .agg #[.int .i64 x8, .slice s9.a s9.n s9.c]] w6 (fun e w10 => ∃ (s11 : Sl), e = .returned (.slice s11.a s11.n s11.c) ∧ w10.heap[w.heap.size]? = w6.heap[w.heap.size]? ∧
 ∃ n7, n7 < n2 ∧ ([.int .i64 a0_0, .int .i64 a0_1, .int .i64 a0_2, .slice a0_3.a a0_3.n a0_3.c, .slice a0_4.a a0_4.n a0_4.c] : List Value) = [.int .i64 a0_0, .int .i64 a0_1, .int .i64 a0_2, .slice a0_3.a a0_3.n a0_3.c, .slice a0_4.a a0_4.n a0_4.c] ∧ I1 n7 ((IntKind.wrap .i64 (x4 + 1))) ⟨s11.a, s11.n, s11.c⟩ w10))
 (R (.returned (.slice s5.a s5.n s5.c)) w6)
theorem ref08_Now.vc {a0_0 a0_1 a0_2 a0_3 a0_4 w} {R : Ending → World → Prop} (h : ref08_Now.pre a0_0 a0_1 a0_2 a0_3 a0_4 w R) : Calls Tryz.prog n_ref08_Now #[.agg #[.int .i64 a0_0, .int .i64 a0_1, .int .i64 a0_2, .slice a0_3.a a0_3.n a0_3.c, .slice a0_4.a a0_4.n a0_4.c]] w R :=
 calls_of_eq (an := ⟨[(3, ⟨[(4, .int .i64), (3, .slice)], [], []⟩)], [], []⟩) (args := [.agg #[.int .i64 a0_0, .int .i64 a0_1, .int .i64 a0_2, .slice a0_3.a a0_3.n a0_3.c, .slice a0_4.a a0_4.n a0_4.c]]) Tryz.noNG Tryz.mixed Tryz.func164 h (by kernel_rfl)
def ref07_Take.pre (a0 : Sl) (w : World) (R : Ending → World → Prop) : Prop :=
 Br (decide (((IntKind.wrap .i64 (((a0.n : Nat) : Int) - 2)) : Int) < 0))
 (R (.returned (.tuple #[.slice none 0 0, .int .i64 3])) w)
 (InB a0.a (IntKind.wrap .i64 (((a0.n : Nat) : Int) - 2)) a0.n ∧ ∃ (x0 : Int), ld w.drew (padd a0.a (((IntKind.wrap .i64 (((a0.n : Nat) : Int) - 2)) : Int).toNat * 1)) = some (.int .u8 x0) ∧
 InB a0.a (IntKind.wrap .i64 ((IntKind.wrap .i64 (((a0.n : Nat) : Int) - 2)) + 1)) a0.n ∧ ∃ (x1 : Int), ld w.drew (padd a0.a (((IntKind.wrap .i64 ((IntKind.wrap .i64 (((a0.n : Nat) : Int) - 2)) + 1)) : Int).toNat * 1)) = some (.int .u8 x1) ∧
 (0 : Int) ≤ (IntKind.wrap .i64 (((a0.n : Nat) : Int) - 2)) ∧ (IntKind.wrap .i64 (((a0.n : Nat) : Int) - 2)) ≤ ((a0.c : Nat) : Int) ∧ Calls Tryz.prog n_ref07_Of #[.slice (slBase a0.a (0) (a0.c) 1) (((IntKind.wrap .i64 (((a0.n : Nat) : Int) - 2)) : Int).toNat - 0) (a0.c - 0)] w.drew (fun e w2 => ∃ (x3 : Int), e = .returned (.int .i64 x3) ∧
 LoadL w2 (padd a0.a (((IntKind.wrap .i64 ((IntKind.wrap .i64 (((a0.n : Nat) : Int) - 2)) + 1)) : Int).toNat * 1)) 0 [.int .u8 x1] ∧ LoadL w2 (padd a0.a (((IntKind.wrap .i64 (((a0.n : Nat) : Int) - 2)) : Int).toNat * 1)) 0 [.int .u8 x0] ∧ Br (((IntKind.wrap .i64 ((IntKind.wrap .i64 ((IntKind.wrap .i64 x0) * 256)) + (IntKind.wrap .i64 x1))) : Int) != x3)
 (R (.returned (.tuple #[.slice none 0 0, .int .i64 4])) w2)
 ((0 : Int) ≤ (IntKind.wrap .i64 (((a0.n : Nat) : Int) - 2)) ∧ (IntKind.wrap .i64 (((a0.n : Nat) : Int) - 2)) ≤ ((a0.c : Nat) : Int) ∧ R (.returned (.tuple #[.slice (slBase a0.a (0) (a0.c) 1) (((IntKind.wrap .i64 (((a0.n : Nat) : Int) - 2)) : Int).toNat - 0) (a0.c - 0), .int .i64 0])) w2)))
theorem ref07_Take.vc {a0 w} {R : Ending → World → Prop} (h : ref07_Take.pre a0 w R) : Calls Tryz.prog n_ref07_Take #[.slice a0.a a0.n a0.c] w R :=
 calls_of_eq (an := ⟨[], [], []⟩) (args := [.slice a0.a a0.n a0.c]) Tryz.noNG Tryz.mixed Tryz.func192 h (by kernel_rfl)
def ref09_num.pre (a0 : Sl) (w : World) (R : Ending → World → Prop) : Prop :=
 ∃ I0 : Nat → Int → Int → World → Prop,
 (∃ n1, I0 n1 (0) (0) w) ∧
 ∀ (n1 : Nat) (us2 : Nat → Value) (x3 : Int) (x4 : Int) (w5 : World), I0 n1 x3 x4 w5 →
 Br (decide ((x3 : Int) < ((a0.n : Nat) : Int)))
 (InB a0.a x3 a0.n ∧ ∃ (x7 : Int), ld w5 (padd a0.a ((x3 : Int).toNat * 1)) = some (.int .u8 x7) ∧
 ∃ n6, n6 < n1 ∧ I0 n6 ((IntKind.wrap .i64 (x3 + 1))) ((IntKind.wrap .i64 ((IntKind.wrap .i64 (x4 * 256)) + (IntKind.wrap .i64 x7)))) w5)
 (R (.returned (.int .i64 x4)) w5)
theorem ref09_num.vc {a0 w} {R : Ending → World → Prop} (h : ref09_num.pre a0 w R) : Calls Tryz.prog n_ref09_num #[.slice a0.a a0.n a0.c] w R :=
 calls_of_eq (an := ⟨[(3, ⟨[(4, .int .i64), (3, .int .i64)], [], []⟩)], [], []⟩) (args := [.slice a0.a a0.n a0.c]) Tryz.noNG Tryz.mixed Tryz.func193 h (by kernel_rfl)
def ref07_Of.pre (a0 : Sl) (w : World) (R : Ending → World → Prop) : Prop :=
 Calls Tryz.prog n_ref07_Sum #[.int .i64 65535, .slice a0.a a0.n a0.c] w (fun e w0 => ∃ (x1 : Int), e = .returned (.int .i64 x1) ∧
 R (.returned (.int .i64 x1)) w0)
theorem ref07_Of.vc {a0 w} {R : Ending → World → Prop} (h : ref07_Of.pre a0 w R) : Calls Tryz.prog n_ref07_Of #[.slice a0.a a0.n a0.c] w R :=
 calls_of_eq (an := ⟨[], [], []⟩) (args := [.slice a0.a a0.n a0.c]) Tryz.noNG Tryz.mixed Tryz.func194 h (by kernel_rfl)
def ref07_Sum.pre (a0 : Int) (a1 : Sl) (w : World) (R : Ending → World → Prop) : Prop :=
 ∃ I0 : Nat → Int → Int → World → Prop,
 (∃ n1, I0 n1 (0) (a0) w) ∧
 ∀ (n1 : Nat) (us2 : Nat → Value) (x3 : Int) (x4 : Int) (w5 : World), I0 n1 x3 x4 w5 →
 Br (decide ((x3 : Int) < ((a1.n : Nat) : Int)))
 (InB a1.a x3 a1.n ∧ ∃ (x7 : Int), ld w5 (padd a1.a ((x3 : Int).toNat * 1)) = some (.int .u8 x7) ∧
 ∃ I8 : Nat → Int → Int → World → Prop,
 (∃ n9, I8 n9 (0) ((bXor .i64 x4 (IntKind.wrap .i64 ((IntKind.wrap .i64 x7) * 256)))) w5) ∧
 ∀ (n9 : Nat) (us10 : Nat → Value) (x11 : Int) (x12 : Int) (w13 : World), I8 n9 x11 x12 w13 →
 Br (decide ((x11 : Int) < 8))
 (Br (decide (((IntKind.wrap .i64 (x12 * 2)) : Int) ≥ 65536))
 (∃ n14, n14 < n9 ∧ I8 n14 ((IntKind.wrap .i64 (x11 + 1))) ((bXor .i64 (IntKind.wrap .i64 ((IntKind.wrap .i64 (x12 * 2)) - 65536)) 4129)) w13)
 (∃ n14, n14 < n9 ∧ I8 n14 ((IntKind.wrap .i64 (x11 + 1))) ((IntKind.wrap .i64 (x12 * 2))) w13))
 (∃ n6, n6 < n1 ∧ I0 n6 ((IntKind.wrap .i64 (x3 + 1))) (x12) w13))
 (R (.returned (.int .i64 x4)) w5)
theorem ref07_Sum.vc {a0 a1 w} {R : Ending → World → Prop} (h : ref07_Sum.pre a0 a1 w R) : Calls Tryz.prog n_ref07_Sum #[.int .i64 a0, .slice a1.a a1.n a1.c] w R :=
 calls_of_eq (an := ⟨[(6, ⟨[(6, .int .i64), (0, .int .i64)], [], []⟩), (2, ⟨[(5, .int .i64), (0, .int .i64)], [], []⟩)], [], []⟩) (args := [.int .i64 a0, .slice a1.a a1.n a1.c]) Tryz.noNG Tryz.mixed Tryz.func204 h (by kernel_rfl)
end Go.Proofs.YtbnmglonbhdcbaaGreatDoor
