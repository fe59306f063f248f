import Derived.Test.YtkkkfkopcfdmaaaGreatDoorGF
set_option linter.all false
namespace Go.Proofs.YtkkkfkopcfdmaaaGreatDoor
open Go Go.Vc Go.RowKit Go.Proofs
set_option maxRecDepth 100000
set_option maxHeartbeats 8000000
set_option linter.unusedVariables false
abbrev n_engine_Engine_Spawn : FuncId := 11
abbrev n_engine_Engine_Live : FuncId := 12
abbrev n_engine_Engine_Kill : FuncId := 13
abbrev n_engine_New : FuncId := 38
abbrev n_engine_Engine_Sim : FuncId := 41
abbrev n_slices_Index_life : FuncId := 43
abbrev n_body_May : FuncId := 44
abbrev n_engine_Engine_awake : FuncId := 45
abbrev n_probe_Blocked : FuncId := 46
abbrev n_engine_Engine_view : FuncId := 47
abbrev n_body_Body_Box : FuncId := 48
abbrev n_probe_Stands : FuncId := 49
abbrev n_engine_Engine_at : FuncId := 50
abbrev n_body_within : FuncId := 99
abbrev n_cell_Of : FuncId := 101
abbrev n_probe_any : FuncId := 102
abbrev n_vec_Stand : FuncId := 104
abbrev n_probe_Under : FuncId := 105
abbrev n_vec_Add : FuncId := 145
abbrev n_fixed_Floor : FuncId := 152
abbrev n_probe_Find : FuncId := 153
abbrev n_vec_Sub : FuncId := 154
abbrev n_vec_With : FuncId := 155
abbrev n_fixed_Sub : FuncId := 156
abbrev n_vec_Axis : FuncId := 178
abbrev n_vec_each : FuncId := 203
abbrev n_vec_Add_1 : FuncId := 204
abbrev n_fixed_Add : FuncId := 205
abbrev n_fixed_Cut : FuncId := 214
abbrev n_probe_each : FuncId := 215
abbrev n_vec_Sub_1 : FuncId := 216
abbrev n_vec_With_1 : FuncId := 217
abbrev n_vec_parts : FuncId := 245
abbrev n_fixed_Frac : FuncId := 258
abbrev n_probe_each_1 : FuncId := 265
abbrev n_cell_Span : FuncId := 266
abbrev n_cell_Span_1 : FuncId := 293
abbrev n_law21_load : FuncId := 42
abbrev n_law21_begin : FuncId := 9
abbrev n_law21_lives : FuncId := 14
abbrev n_law21_EngineSpawns : FuncId := 3
def engine_Engine_Spawn.pre (a0 : Addr) (a1_0 : Int) (a1_1 : Int) (a1_2 : Int) (a2 : Int) (a3 : Int) (w : World) (R : Ending → World → Prop) : Prop :=
 ∀ w0 : World, w0 = w.alloc (.cells #[.int .i64 a1_0, .int .i64 a1_1, .int .i64 a1_2] 28) →
 ∀ w1 : World, w1 = w0.alloc (.cells #[.int .i64 0, .int .i64 0, .int .i64 0, .int .i64 0, .int .i64 0, .int .i64 0, .int .i64 0, .int .i64 0, .bool false] 70) →
 ∀ w2 : World, w2 = w1.setRow w0.heap.size #[.int .i64 a1_0, .int .i64 a1_1, .int .i64 a1_2, .int .i64 0, .int .i64 0, .int .i64 0, .int .i64 a2, .int .i64 a3, .bool false] →
 Calls Tryz.prog n_slices_Index_life #[.slice (slBase (padd (some a0) 1) (0) (16) 1) (16 - 0) (16 - 0), .pointer none] w2 (fun e w3 => ∃ (x4 : Int), e = .returned (.int .i64 x4) ∧ w3.heap[w.heap.size]? = w2.heap[w.heap.size]? ∧ w3.heap[w0.heap.size]? = w2.heap[w0.heap.size]? ∧
 Calls Tryz.prog n_body_May #[.agg #[.int .i64 a1_0, .int .i64 a1_1, .int .i64 a1_2, .int .i64 0, .int .i64 0, .int .i64 0, .int .i64 a2, .int .i64 a3, .bool false]] w3 (fun e w5 => ∃ (b6 : Bool), e = .returned (.bool b6) ∧ w5.heap[w.heap.size]? = w3.heap[w.heap.size]? ∧ w5.heap[w0.heap.size]? = w3.heap[w0.heap.size]? ∧
 Br (!b6)
 (R (.returned (.tuple #[.int .i64 (-1), .int .i64 1])) w5)
 (Br (decide ((x4 : Int) < 0))
 (R (.returned (.tuple #[.int .i64 (-1), .int .i64 8])) w5)
 (Calls Tryz.prog n_engine_Engine_awake #[.pointer (some a0), .agg #[.int .i64 a1_0, .int .i64 a1_1, .int .i64 a1_2, .int .i64 0, .int .i64 0, .int .i64 0, .int .i64 a2, .int .i64 a3, .bool false]] w5 (fun e w7 => ∃ (b8 : Bool), e = .returned (.bool b8) ∧ w7.heap[w.heap.size]? = w5.heap[w.heap.size]? ∧ w7.heap[w0.heap.size]? = w5.heap[w0.heap.size]? ∧
 Br (!b8)
 (R (.returned (.tuple #[.int .i64 (-1), .int .i64 11])) w7)
 (Calls Tryz.prog n_engine_Engine_view #[.pointer (some a0)] w7.drew (fun e w9 => ∃ (v10 : Value), e = .returned (v10) ∧ w9.heap[w.heap.size]? = w7.drew.heap[w.heap.size]? ∧ w9.heap[w0.heap.size]? = w7.drew.heap[w0.heap.size]? ∧
 LoadL w9 (some ⟨w0.heap.size, 0, none⟩) 0 [.int .i64 a1_0, .int .i64 a1_1, .int .i64 a1_2, .int .i64 0, .int .i64 0, .int .i64 0, .int .i64 a2, .int .i64 a3, .bool false] ∧ Calls Tryz.prog n_body_Body_Box #[.agg #[.int .i64 a1_0, .int .i64 a1_1, .int .i64 a1_2, .int .i64 0, .int .i64 0, .int .i64 0, .int .i64 a2, .int .i64 a3, .bool false]] w9 (fun e w11 => ∃ (x12 : Int) (x13 : Int) (x14 : Int) (x15 : Int) (x16 : Int) (x17 : Int), e = .returned (.agg #[.int .i64 x12, .int .i64 x13, .int .i64 x14, .int .i64 x15, .int .i64 x16, .int .i64 x17]) ∧ w11.heap[w.heap.size]? = w9.heap[w.heap.size]? ∧ w11.heap[w0.heap.size]? = w9.heap[w0.heap.size]? ∧
 Calls Tryz.prog n_probe_Blocked #[v10, .agg #[.int .i64 x12, .int .i64 x13, .int .i64 x14, .int .i64 x15, .int .i64 x16, .int .i64 x17]] w11 (fun e w18 => ∃ (b19 : Bool), e = .returned (.bool b19) ∧ w18.heap[w.heap.size]? = w11.heap[w.heap.size]? ∧ w18.heap[w0.heap.size]? = w11.heap[w0.heap.size]? ∧
 Br b19
 (R (.returned (.tuple #[.int .i64 (-1), .int .i64 12])) w18)
 (Calls Tryz.prog n_engine_Engine_view #[.pointer (some a0)] w18.drew (fun e w20 => ∃ (v21 : Value), e = .returned (v21) ∧ w20.heap[w.heap.size]? = w18.drew.heap[w.heap.size]? ∧ w20.heap[w0.heap.size]? = w18.drew.heap[w0.heap.size]? ∧
 LoadL w20 (some ⟨w0.heap.size, 0, none⟩) 0 [.int .i64 a1_0, .int .i64 a1_1, .int .i64 a1_2, .int .i64 0, .int .i64 0, .int .i64 0, .int .i64 a2, .int .i64 a3, .bool false] ∧ Calls Tryz.prog n_body_Body_Box #[.agg #[.int .i64 a1_0, .int .i64 a1_1, .int .i64 a1_2, .int .i64 0, .int .i64 0, .int .i64 0, .int .i64 a2, .int .i64 a3, .bool false]] w20 (fun e w22 => ∃ (x23 : Int) (x24 : Int) (x25 : Int) (x26 : Int) (x27 : Int) (x28 : Int), e = .returned (.agg #[.int .i64 x23, .int .i64 x24, .int .i64 x25, .int .i64 x26, .int .i64 x27, .int .i64 x28]) ∧ w22.heap[w.heap.size]? = w20.heap[w.heap.size]? ∧ w22.heap[w0.heap.size]? = w20.heap[w0.heap.size]? ∧
 Calls Tryz.prog n_probe_Stands #[v21, .agg #[.int .i64 x23, .int .i64 x24, .int .i64 x25, .int .i64 x26, .int .i64 x27, .int .i64 x28]] w22 (fun e w29 => ∃ (b30 : Bool), e = .returned (.bool b30) ∧ w29.heap[w.heap.size]? = w22.heap[w.heap.size]? ∧ w29.heap[w0.heap.size]? = w22.heap[w0.heap.size]? ∧
 ∀ w31 : World, w31 = w29.setRow w0.heap.size #[.int .i64 a1_0, .int .i64 a1_1, .int .i64 a1_2, .int .i64 0, .int .i64 0, .int .i64 0, .int .i64 a2, .int .i64 a3, .bool b30] →
 ∀ w32 : World, w32 = w31.drew.alloc (.cells #[.int .i64 a1_0, .int .i64 a1_1, .int .i64 a1_2, .int .i64 0, .int .i64 0, .int .i64 0, .int .i64 a2, .int .i64 a3, .bool b30, .int .i64 0, .int .i64 0, .bool false] 111) →
 (0 : Int) ≤ x4 ∧ (x4 : Int) < ((16 : Nat) : Int) ∧ (true = true ∧ Wr w32 (padd (padd (some a0) 1) ((x4 : Int).toNat * 1)) 1) ∧ pblk (padd (padd (some a0) 1) ((x4 : Int).toNat * 1)) ≠ some w.heap.size ∧ pblk (padd (padd (some a0) 1) ((x4 : Int).toNat * 1)) ≠ some w0.heap.size ∧ pblk (padd (padd (some a0) 1) ((x4 : Int).toNat * 1)) ≠ some w31.drew.heap.size ∧ (∀ w33 : World, w33 = setP w32 (padd (padd (some a0) 1) ((x4 : Int).toNat * 1)) [.pointer (some ⟨w31.drew.heap.size, 0, none⟩)] →
 R (.returned (.tuple #[.int .i64 x4, .int .i64 0])) w33))))))))))))))
theorem engine_Engine_Spawn.vc {a0 a1_0 a1_1 a1_2 a2 a3 w} {R : Ending → World → Prop} (h : engine_Engine_Spawn.pre a0 a1_0 a1_1 a1_2 a2 a3 w R) : Calls Tryz.prog n_engine_Engine_Spawn #[.pointer (some a0), .agg #[.int .i64 a1_0, .int .i64 a1_1, .int .i64 a1_2], .int .i64 a2, .int .i64 a3] w R :=
 calls_of_eq (an := ⟨[], [], []⟩) (args := [.pointer (some a0), .agg #[.int .i64 a1_0, .int .i64 a1_1, .int .i64 a1_2], .int .i64 a2, .int .i64 a3]) Tryz.noNG Tryz.mixed Tryz.func11 h (by kernel_rfl)
def engine_Engine_Live.pre (a0 : Addr) (w : World) (R : Ending → World → Prop) : Prop :=
 ∃ (p0 : Option Addr) (p1 : Option Addr) (p2 : Option Addr) (p3 : Option Addr) (p4 : Option Addr) (p5 : Option Addr) (p6 : Option Addr) (p7 : Option Addr) (p8 : Option Addr) (p9 : Option Addr) (p10 : Option Addr) (p11 : Option Addr) (p12 : Option Addr) (p13 : Option Addr) (p14 : Option Addr) (p15 : Option Addr), LoadL w (padd (some a0) 1) 0 [.pointer p0, .pointer p1, .pointer p2, .pointer p3, .pointer p4, .pointer p5, .pointer p6, .pointer p7, .pointer p8, .pointer p9, .pointer p10, .pointer p11, .pointer p12, .pointer p13, .pointer p14, .pointer p15] ∧
 ∃ I16 : Nat → Int → Sl → World → Prop,
 (∃ n17, I16 n17 (0) ⟨none, 0, 0⟩ w) ∧
 ∀ (n17 : Nat) (us18 : Nat → Value) (x19 : Int) (s20 : Sl) (w21 : World), I16 n17 x19 s20 w21 →
 Br (decide ((x19 : Int) < 16))
 (((0 : Int) ≤ x19 ∧ (x19 : Int) < ((16 : Nat) : Int)) ∧ ∃ (p23 : Option Addr), ([.pointer p0, .pointer p1, .pointer p2, .pointer p3, .pointer p4, .pointer p5, .pointer p6, .pointer p7, .pointer p8, .pointer p9, .pointer p10, .pointer p11, .pointer p12, .pointer p13, .pointer p14, .pointer p15] : List Value)[(x19 : Int).toNat * 1]? = some (.pointer p23) ∧
 Br (!(p23).isNone)
 (∀ w24 : World, w24 = w21.alloc (.cells #[.int .i64 x19] 3) →
 AppPre 8 1 w24 ⟨s20.a, s20.n, s20.c⟩ 1 [.int .i64 x19] ∧ ∀ (s25 : Sl) (w26 : World), AppRes 3 1 w24 ⟨s20.a, s20.n, s20.c⟩ 1 [.int .i64 x19] s25 w26 → w26.heap[w21.heap.size]? = w24.heap[w21.heap.size]? ∧
 ∃ n22, n22 < n17 ∧ I16 n22 ((IntKind.wrap .i64 (x19 + 1))) ⟨s25.a, s25.n, s25.c⟩ w26)
 (∃ n22, n22 < n17 ∧ I16 n22 ((IntKind.wrap .i64 (x19 + 1))) ⟨s20.a, s20.n, s20.c⟩ w21))
 (R (.returned (.slice s20.a s20.n s20.c)) w21)
theorem engine_Engine_Live.vc {a0 w} {R : Ending → World → Prop} (h : engine_Engine_Live.pre a0 w R) : Calls Tryz.prog n_engine_Engine_Live #[.pointer (some a0)] w R :=
 calls_of_eq (an := ⟨[(3, ⟨[(10, .int .i64), (3, .slice)], [], []⟩)], [], []⟩) (args := [.pointer (some a0)]) Tryz.noNG Tryz.mixed Tryz.func12 h (by kernel_rfl)
def engine_Engine_Kill.pre (a0 : Addr) (a1 : Int) (w : World) (R : Ending → World → Prop) : Prop :=
 Calls Tryz.prog n_engine_Engine_at #[.pointer (some a0), .int .i64 a1] w (fun e w0 => ∃ (p1 : Option Addr), e = .returned (.pointer p1) ∧
 Br (p1).isNone
 (R (.returned (.int .i64 6)) w0)
 ((0 : Int) ≤ a1 ∧ (a1 : Int) < ((16 : Nat) : Int) ∧ (true = true ∧ Wr w0 (padd (padd (some a0) 1) ((a1 : Int).toNat * 1)) 1) ∧ (∀ w2 : World, w2 = setP w0 (padd (padd (some a0) 1) ((a1 : Int).toNat * 1)) [.pointer none] →
 R (.returned (.int .i64 0)) w2)))
theorem engine_Engine_Kill.vc {a0 a1 w} {R : Ending → World → Prop} (h : engine_Engine_Kill.pre a0 a1 w R) : Calls Tryz.prog n_engine_Engine_Kill #[.pointer (some a0), .int .i64 a1] w R :=
 calls_of_eq (an := ⟨[], [], []⟩) (args := [.pointer (some a0), .int .i64 a1]) Tryz.noNG Tryz.mixed Tryz.func13 h (by kernel_rfl)
def engine_New.pre (a0_0 : Int) (a0_1 : Int) (a0_2 : Int) (a0_3 : Int) (w : World) (R : Ending → World → Prop) : Prop :=
 ∀ w0 : World, w0 = w.alloc (.cells #[.int .i64 a0_0, .int .i64 a0_1, .int .i64 a0_2, .int .i64 a0_3] 94) →
 Calls Tryz.prog 39 #[.int .i64 a0_0, .int .i64 a0_1, .int .i64 a0_2] w0.drew (fun e w1 => ∃ (p2 : Option Addr), e = .returned (.pointer p2) ∧ w1.heap[w.heap.size]? = w0.drew.heap[w.heap.size]? ∧
 LoadL w1 (some ⟨w.heap.size, 3, none⟩) 0 [.int .i64 a0_3] ∧ Calls Tryz.prog 40 #[.pointer p2, .int .i64 a0_3] w1 (fun e w3 => ∃ (p4 : Option Addr), e = .returned (.pointer p4) ∧ w3.heap[w.heap.size]? = w1.heap[w.heap.size]? ∧
 ∀ w5 : World, w5 = w3.alloc (.cells #[.pointer p4, .pointer none, .pointer none, .pointer none, .pointer none, .pointer none, .pointer none, .pointer none, .pointer none, .pointer none, .pointer none, .pointer none, .pointer none, .pointer none, .pointer none, .pointer none, .pointer none] 56) →
 R (.returned (.pointer (some ⟨w3.heap.size, 0, none⟩))) w5))
theorem engine_New.vc {a0_0 a0_1 a0_2 a0_3 w} {R : Ending → World → Prop} (h : engine_New.pre a0_0 a0_1 a0_2 a0_3 w R) : Calls Tryz.prog n_engine_New #[.agg #[.int .i64 a0_0, .int .i64 a0_1, .int .i64 a0_2, .int .i64 a0_3]] w R :=
 calls_of_eq (an := ⟨[], [], []⟩) (args := [.agg #[.int .i64 a0_0, .int .i64 a0_1, .int .i64 a0_2, .int .i64 a0_3]]) Tryz.noNG Tryz.mixed Tryz.func38 h (by kernel_rfl)
def engine_Engine_Sim.pre (a0 : Addr) (w : World) (R : Ending → World → Prop) : Prop :=
 ∃ (p0 : Option Addr), ld w (padd (some a0) 0) = some (.pointer p0) ∧
 R (.returned (.pointer p0)) w
theorem engine_Engine_Sim.vc {a0 w} {R : Ending → World → Prop} (h : engine_Engine_Sim.pre a0 w R) : Calls Tryz.prog n_engine_Engine_Sim #[.pointer (some a0)] w R :=
 calls_of_eq (an := ⟨[], [], []⟩) (args := [.pointer (some a0)]) Tryz.noNG Tryz.mixed Tryz.func41 h (by kernel_rfl)
def slices_Index_life.pre (a0 : Sl) (w : World) (R : Ending → World → Prop) : Prop :=
 ∃ I0 : Nat → Int → World → Prop,
 (∃ n1, I0 n1 (0) w) ∧
 ∀ (n1 : Nat) (us2 : Nat → Value) (x3 : Int) (w4 : World), I0 n1 x3 w4 →
 Br (decide ((x3 : Int) < ((a0.n : Nat) : Int)))
 (InB a0.a x3 a0.n ∧ ∃ (p6 : Option Addr), ld w4 (padd a0.a ((x3 : Int).toNat * 1)) = some (.pointer p6) ∧
 AndL (ptrC none p6) (Br (ptrB none p6)
 (R (.returned (.int .i64 x3)) w4)
 (∃ n5, n5 < n1 ∧ I0 n5 ((IntKind.wrap .i64 (x3 + 1))) w4)))
 (R (.returned (.int .i64 (-1))) w4)
theorem slices_Index_life.vc {a0 w} {R : Ending → World → Prop} (h : slices_Index_life.pre a0 w R) : Calls Tryz.prog n_slices_Index_life #[.slice a0.a a0.n a0.c, .pointer none] w R :=
 calls_of_eq (an := ⟨[(2, ⟨[(8, .int .i64)], [], []⟩)], [], []⟩) (args := [.slice a0.a a0.n a0.c, .pointer none]) Tryz.noNG Tryz.mixed Tryz.func43 h (by kernel_rfl)
def body_May.pre (a0_0 : Int) (a0_1 : Int) (a0_2 : Int) (a0_3 : Int) (a0_4 : Int) (a0_5 : Int) (a0_6 : Int) (a0_7 : Int) (a0_8 : Bool) (w : World) (R : Ending → World → Prop) : Prop :=
 ∀ w0 : World, w0 = w.alloc (.cells #[.int .i64 a0_0, .int .i64 a0_1, .int .i64 a0_2, .int .i64 a0_3, .int .i64 a0_4, .int .i64 a0_5, .int .i64 a0_6, .int .i64 a0_7, .bool a0_8] 70) →
 Br (decide ((a0_6 : Int) ≥ 2))
 (Br (decide ((a0_6 : Int) ≤ 131072))
 (Br (decide ((a0_7 : Int) ≥ 1))
 (Br (decide ((a0_7 : Int) ≤ 262144))
 (Calls Tryz.prog n_body_within #[.agg #[.int .i64 a0_0, .int .i64 a0_1, .int .i64 a0_2], .int .i64 70368744177664] w0 (fun e w1 => ∃ (b2 : Bool), e = .returned (.bool b2) ∧ w1.heap[w.heap.size]? = w0.heap[w.heap.size]? ∧
 Br b2
 (Calls Tryz.prog n_body_within #[.agg #[.int .i64 a0_3, .int .i64 a0_4, .int .i64 a0_5], .int .i64 262144] w1 (fun e w3 => ∃ (b4 : Bool), e = .returned (.bool b4) ∧ w3.heap[w.heap.size]? = w1.heap[w.heap.size]? ∧
 R (.returned (.bool b4)) w3))
 (R (.returned (.bool false)) w1)))
 (R (.returned (.bool false)) w0))
 (R (.returned (.bool false)) w0))
 (R (.returned (.bool false)) w0))
 (R (.returned (.bool false)) w0)
theorem body_May.vc {a0_0 a0_1 a0_2 a0_3 a0_4 a0_5 a0_6 a0_7 a0_8 w} {R : Ending → World → Prop} (h : body_May.pre a0_0 a0_1 a0_2 a0_3 a0_4 a0_5 a0_6 a0_7 a0_8 w R) : Calls Tryz.prog n_body_May #[.agg #[.int .i64 a0_0, .int .i64 a0_1, .int .i64 a0_2, .int .i64 a0_3, .int .i64 a0_4, .int .i64 a0_5, .int .i64 a0_6, .int .i64 a0_7, .bool a0_8]] w R :=
 calls_of_eq (an := ⟨[], [], []⟩) (args := [.agg #[.int .i64 a0_0, .int .i64 a0_1, .int .i64 a0_2, .int .i64 a0_3, .int .i64 a0_4, .int .i64 a0_5, .int .i64 a0_6, .int .i64 a0_7, .bool a0_8]]) Tryz.noNG Tryz.mixed Tryz.func44 h (by kernel_rfl)
def engine_Engine_awake.pre (a0 : Addr) (a1_0 : Int) (a1_1 : Int) (a1_2 : Int) (a1_3 : Int) (a1_4 : Int) (a1_5 : Int) (a1_6 : Int) (a1_7 : Int) (a1_8 : Bool) (w : World) (R : Ending → World → Prop) : Prop :=
 ∀ w0 : World, w0 = w.alloc (.cells #[.int .i64 a1_0, .int .i64 a1_1, .int .i64 a1_2, .int .i64 a1_3, .int .i64 a1_4, .int .i64 a1_5, .int .i64 a1_6, .int .i64 a1_7, .bool a1_8] 70) →
 ∃ (p1 : Option Addr), ld w0.drew (padd (some a0) 0) = some (.pointer p1) ∧
 Calls Tryz.prog 18 #[.pointer p1] w0.drew (fun e w2 => ∃ (p3 : Option Addr), e = .returned (.pointer p3) ∧ w2.heap[w.heap.size]? = w0.drew.heap[w.heap.size]? ∧
 LoadL w2 (some ⟨w.heap.size, 0, none⟩) 0 [.int .i64 a1_0, .int .i64 a1_1, .int .i64 a1_2] ∧ Calls Tryz.prog n_cell_Of #[.agg #[.int .i64 a1_0, .int .i64 a1_1, .int .i64 a1_2]] w2 (fun e w4 => ∃ (x5 : Int) (x6 : Int) (x7 : Int), e = .returned (.agg #[.int .i64 x5, .int .i64 x6, .int .i64 x7]) ∧ w4.heap[w.heap.size]? = w2.heap[w.heap.size]? ∧
 Calls Tryz.prog 100 #[.pointer p3, .agg #[.int .i64 x5, .int .i64 x6, .int .i64 x7]] w4 (fun e w8 => ∃ (b9 : Bool), e = .returned (.bool b9) ∧ w8.heap[w.heap.size]? = w4.heap[w.heap.size]? ∧
 R (.returned (.bool b9)) w8)))
theorem engine_Engine_awake.vc {a0 a1_0 a1_1 a1_2 a1_3 a1_4 a1_5 a1_6 a1_7 a1_8 w} {R : Ending → World → Prop} (h : engine_Engine_awake.pre a0 a1_0 a1_1 a1_2 a1_3 a1_4 a1_5 a1_6 a1_7 a1_8 w R) : Calls Tryz.prog n_engine_Engine_awake #[.pointer (some a0), .agg #[.int .i64 a1_0, .int .i64 a1_1, .int .i64 a1_2, .int .i64 a1_3, .int .i64 a1_4, .int .i64 a1_5, .int .i64 a1_6, .int .i64 a1_7, .bool a1_8]] w R :=
 calls_of_eq (an := ⟨[], [], []⟩) (args := [.pointer (some a0), .agg #[.int .i64 a1_0, .int .i64 a1_1, .int .i64 a1_2, .int .i64 a1_3, .int .i64 a1_4, .int .i64 a1_5, .int .i64 a1_6, .int .i64 a1_7, .bool a1_8]]) Tryz.noNG Tryz.mixed Tryz.func45 h (by kernel_rfl)
def probe_Blocked.pre (a0 : Value) (a1_0 : Int) (a1_1 : Int) (a1_2 : Int) (a1_3 : Int) (a1_4 : Int) (a1_5 : Int) (w : World) (R : Ending → World → Prop) : Prop :=
 ∀ w0 : World, w0 = w.alloc (.cells #[.int .i64 a1_0, .int .i64 a1_1, .int .i64 a1_2, .int .i64 a1_3, .int .i64 a1_4, .int .i64 a1_5] 107) →
 Calls Tryz.prog n_probe_any #[a0, .agg #[.int .i64 a1_0, .int .i64 a1_1, .int .i64 a1_2, .int .i64 a1_3, .int .i64 a1_4, .int .i64 a1_5], .func (.func 103) #[] #[]] w0 (fun e w1 => ∃ (b2 : Bool), e = .returned (.bool b2) ∧ w1.heap[w.heap.size]? = w0.heap[w.heap.size]? ∧
 R (.returned (.bool b2)) w1)
theorem probe_Blocked.vc {a0 a1_0 a1_1 a1_2 a1_3 a1_4 a1_5 w} {R : Ending → World → Prop} (h : probe_Blocked.pre a0 a1_0 a1_1 a1_2 a1_3 a1_4 a1_5 w R) : Calls Tryz.prog n_probe_Blocked #[a0, .agg #[.int .i64 a1_0, .int .i64 a1_1, .int .i64 a1_2, .int .i64 a1_3, .int .i64 a1_4, .int .i64 a1_5]] w R :=
 calls_of_eq (an := ⟨[], [], []⟩) (args := [a0, .agg #[.int .i64 a1_0, .int .i64 a1_1, .int .i64 a1_2, .int .i64 a1_3, .int .i64 a1_4, .int .i64 a1_5]]) Tryz.noNG Tryz.mixed Tryz.func46 h (by kernel_rfl)
def engine_Engine_view.pre (a0 : Addr) (w : World) (R : Ending → World → Prop) : Prop :=
 ∃ (p0 : Option Addr), ld w (padd (some a0) 0) = some (.pointer p0) ∧
 Calls Tryz.prog 18 #[.pointer p0] w (fun e w1 => ∃ (p2 : Option Addr), e = .returned (.pointer p2) ∧
 Calls Tryz.prog 27 #[.pointer p2] w1 (fun e w3 => ∃ (v4 : Value), e = .returned (v4) ∧
 R (.returned (v4)) w3))
theorem engine_Engine_view.vc {a0 w} {R : Ending → World → Prop} (h : engine_Engine_view.pre a0 w R) : Calls Tryz.prog n_engine_Engine_view #[.pointer (some a0)] w R :=
 calls_of_eq (an := ⟨[], [], []⟩) (args := [.pointer (some a0)]) Tryz.noNG Tryz.mixed Tryz.func47 h (by kernel_rfl)
def body_Body_Box.pre (a0_0 : Int) (a0_1 : Int) (a0_2 : Int) (a0_3 : Int) (a0_4 : Int) (a0_5 : Int) (a0_6 : Int) (a0_7 : Int) (a0_8 : Bool) (w : World) (R : Ending → World → Prop) : Prop :=
 ∀ w0 : World, w0 = w.alloc (.cells #[.int .i64 a0_0, .int .i64 a0_1, .int .i64 a0_2, .int .i64 a0_3, .int .i64 a0_4, .int .i64 a0_5, .int .i64 a0_6, .int .i64 a0_7, .bool a0_8] 70) →
 ∀ w1 : World, w1 = w0.alloc (.cells #[.int .i64 0, .int .i64 0, .int .i64 0, .int .i64 0, .int .i64 0, .int .i64 0] 107) →
 Calls Tryz.prog n_vec_Stand #[.agg #[.int .i64 a0_0, .int .i64 a0_1, .int .i64 a0_2], .int .i64 a0_6, .int .i64 a0_7] w1 (fun e w2 => ∃ (x3 : Int) (x4 : Int) (x5 : Int) (x6 : Int) (x7 : Int) (x8 : Int), e = .returned (.agg #[.int .i64 x3, .int .i64 x4, .int .i64 x5, .int .i64 x6, .int .i64 x7, .int .i64 x8]) ∧ w2.heap[w.heap.size]? = w1.heap[w.heap.size]? ∧ w2.heap[w0.heap.size]? = w1.heap[w0.heap.size]? ∧
 ∀ w9 : World, w9 = w2.setRow w0.heap.size #[.int .i64 x3, .int .i64 x4, .int .i64 x5, .int .i64 x6, .int .i64 x7, .int .i64 x8] →
 R (.returned (.agg #[.int .i64 x3, .int .i64 x4, .int .i64 x5, .int .i64 x6, .int .i64 x7, .int .i64 x8])) w9)
theorem body_Body_Box.vc {a0_0 a0_1 a0_2 a0_3 a0_4 a0_5 a0_6 a0_7 a0_8 w} {R : Ending → World → Prop} (h : body_Body_Box.pre a0_0 a0_1 a0_2 a0_3 a0_4 a0_5 a0_6 a0_7 a0_8 w R) : Calls Tryz.prog n_body_Body_Box #[.agg #[.int .i64 a0_0, .int .i64 a0_1, .int .i64 a0_2, .int .i64 a0_3, .int .i64 a0_4, .int .i64 a0_5, .int .i64 a0_6, .int .i64 a0_7, .bool a0_8]] w R :=
 calls_of_eq (an := ⟨[], [], []⟩) (args := [.agg #[.int .i64 a0_0, .int .i64 a0_1, .int .i64 a0_2, .int .i64 a0_3, .int .i64 a0_4, .int .i64 a0_5, .int .i64 a0_6, .int .i64 a0_7, .bool a0_8]]) Tryz.noNG Tryz.mixed Tryz.func48 h (by kernel_rfl)
def probe_Stands.pre (a0 : Value) (a1_0 : Int) (a1_1 : Int) (a1_2 : Int) (a1_3 : Int) (a1_4 : Int) (a1_5 : Int) (w : World) (R : Ending → World → Prop) : Prop :=
 ∀ w0 : World, w0 = w.alloc (.cells #[.int .i64 a1_0, .int .i64 a1_1, .int .i64 a1_2, .int .i64 a1_3, .int .i64 a1_4, .int .i64 a1_5] 107) →
 Calls Tryz.prog n_probe_Under #[.agg #[.int .i64 a1_0, .int .i64 a1_1, .int .i64 a1_2, .int .i64 a1_3, .int .i64 a1_4, .int .i64 a1_5]] w0 (fun e w1 => ∃ (x2 : Int) (x3 : Int) (x4 : Int) (x5 : Int) (x6 : Int) (x7 : Int), e = .returned (.agg #[.int .i64 x2, .int .i64 x3, .int .i64 x4, .int .i64 x5, .int .i64 x6, .int .i64 x7]) ∧ w1.heap[w.heap.size]? = w0.heap[w.heap.size]? ∧
 Calls Tryz.prog n_probe_Blocked #[a0, .agg #[.int .i64 x2, .int .i64 x3, .int .i64 x4, .int .i64 x5, .int .i64 x6, .int .i64 x7]] w1 (fun e w8 => ∃ (b9 : Bool), e = .returned (.bool b9) ∧ w8.heap[w.heap.size]? = w1.heap[w.heap.size]? ∧
 R (.returned (.bool b9)) w8))
theorem probe_Stands.vc {a0 a1_0 a1_1 a1_2 a1_3 a1_4 a1_5 w} {R : Ending → World → Prop} (h : probe_Stands.pre a0 a1_0 a1_1 a1_2 a1_3 a1_4 a1_5 w R) : Calls Tryz.prog n_probe_Stands #[a0, .agg #[.int .i64 a1_0, .int .i64 a1_1, .int .i64 a1_2, .int .i64 a1_3, .int .i64 a1_4, .int .i64 a1_5]] w R :=
 calls_of_eq (an := ⟨[], [], []⟩) (args := [a0, .agg #[.int .i64 a1_0, .int .i64 a1_1, .int .i64 a1_2, .int .i64 a1_3, .int .i64 a1_4, .int .i64 a1_5]]) Tryz.noNG Tryz.mixed Tryz.func49 h (by kernel_rfl)
def engine_Engine_at.pre (a0 : Addr) (a1 : Int) (w : World) (R : Ending → World → Prop) : Prop :=
 Br (decide ((a1 : Int) < 0))
 (R (.returned (.pointer none)) w)
 (Br (decide ((a1 : Int) ≥ 16))
 (R (.returned (.pointer none)) w)
 ((0 : Int) ≤ a1 ∧ (a1 : Int) < ((16 : Nat) : Int) ∧ ∃ (p0 : Option Addr), ld w (padd (padd (some a0) 1) ((a1 : Int).toNat * 1)) = some (.pointer p0) ∧
 R (.returned (.pointer p0)) w))
theorem engine_Engine_at.vc {a0 a1 w} {R : Ending → World → Prop} (h : engine_Engine_at.pre a0 a1 w R) : Calls Tryz.prog n_engine_Engine_at #[.pointer (some a0), .int .i64 a1] w R :=
 calls_of_eq (an := ⟨[], [], []⟩) (args := [.pointer (some a0), .int .i64 a1]) Tryz.noNG Tryz.mixed Tryz.func50 h (by kernel_rfl)
def body_within.pre (a0_0 : Int) (a0_1 : Int) (a0_2 : Int) (a1 : Int) (w : World) (R : Ending → World → Prop) : Prop :=
 ∀ w0 : World, w0 = w.alloc (.cells #[.int .i64 a0_0, .int .i64 a0_1, .int .i64 a0_2] 28) →
 Br (decide (((if a0_2 < (if a0_1 < a0_0 then a0_1 else a0_0) then a0_2 else (if a0_1 < a0_0 then a0_1 else a0_0)) : Int) ≥ (IntKind.wrap .i64 (0 - a1))))
 (R (.returned (.bool (decide (((if a0_2 > (if a0_1 > a0_0 then a0_1 else a0_0) then a0_2 else (if a0_1 > a0_0 then a0_1 else a0_0)) : Int) ≤ a1)))) w0)
 (R (.returned (.bool false)) w0)
theorem body_within.vc {a0_0 a0_1 a0_2 a1 w} {R : Ending → World → Prop} (h : body_within.pre a0_0 a0_1 a0_2 a1 w R) : Calls Tryz.prog n_body_within #[.agg #[.int .i64 a0_0, .int .i64 a0_1, .int .i64 a0_2], .int .i64 a1] w R :=
 calls_of_eq (an := ⟨[], [], []⟩) (args := [.agg #[.int .i64 a0_0, .int .i64 a0_1, .int .i64 a0_2], .int .i64 a1]) Tryz.noNG Tryz.mixed Tryz.func99 h (by kernel_rfl)
def cell_Of.pre (a0_0 : Int) (a0_1 : Int) (a0_2 : Int) (w : World) (R : Ending → World → Prop) : Prop :=
 ∀ w0 : World, w0 = w.alloc (.cells #[.int .i64 a0_0, .int .i64 a0_1, .int .i64 a0_2] 28) →
 ∀ w1 : World, w1 = w0.alloc (.cells #[.int .i64 0, .int .i64 0, .int .i64 0] 41) →
 Calls Tryz.prog n_fixed_Floor #[.int .i64 a0_0] w1.drew (fun e w2 => ∃ (x3 : Int), e = .returned (.int .i64 x3) ∧ w2.heap[w.heap.size]? = w1.drew.heap[w.heap.size]? ∧ w2.heap[w0.heap.size]? = w1.drew.heap[w0.heap.size]? ∧
 LoadL w2 (some ⟨w.heap.size, 2, none⟩) 0 [.int .i64 a0_2] ∧ LoadL w2 (some ⟨w.heap.size, 1, none⟩) 0 [.int .i64 a0_1] ∧ Calls Tryz.prog n_fixed_Floor #[.int .i64 a0_1] w2 (fun e w4 => ∃ (x5 : Int), e = .returned (.int .i64 x5) ∧ w4.heap[w.heap.size]? = w2.heap[w.heap.size]? ∧ w4.heap[w0.heap.size]? = w2.heap[w0.heap.size]? ∧
 LoadL w4 (some ⟨w.heap.size, 2, none⟩) 0 [.int .i64 a0_2] ∧ Calls Tryz.prog n_fixed_Floor #[.int .i64 a0_2] w4 (fun e w6 => ∃ (x7 : Int), e = .returned (.int .i64 x7) ∧ w6.heap[w.heap.size]? = w4.heap[w.heap.size]? ∧ w6.heap[w0.heap.size]? = w4.heap[w0.heap.size]? ∧
 ∀ w8 : World, w8 = w6.setRow w0.heap.size #[.int .i64 x3, .int .i64 x5, .int .i64 x7] →
 R (.returned (.agg #[.int .i64 x3, .int .i64 x5, .int .i64 x7])) w8)))
theorem cell_Of.vc {a0_0 a0_1 a0_2 w} {R : Ending → World → Prop} (h : cell_Of.pre a0_0 a0_1 a0_2 w R) : Calls Tryz.prog n_cell_Of #[.agg #[.int .i64 a0_0, .int .i64 a0_1, .int .i64 a0_2]] w R :=
 calls_of_eq (an := ⟨[], [], []⟩) (args := [.agg #[.int .i64 a0_0, .int .i64 a0_1, .int .i64 a0_2]]) Tryz.noNG Tryz.mixed Tryz.func101 h (by kernel_rfl)
def probe_any.pre (a0 : Value) (a1_0 : Int) (a1_1 : Int) (a1_2 : Int) (a1_3 : Int) (a1_4 : Int) (a1_5 : Int) (a2 : Value) (w : World) (R : Ending → World → Prop) : Prop :=
 ∀ w0 : World, w0 = w.alloc (.cells #[.int .i64 a1_0, .int .i64 a1_1, .int .i64 a1_2, .int .i64 a1_3, .int .i64 a1_4, .int .i64 a1_5] 107) →
 Calls Tryz.prog n_probe_Find #[a0, .agg #[.int .i64 a1_0, .int .i64 a1_1, .int .i64 a1_2, .int .i64 a1_3, .int .i64 a1_4, .int .i64 a1_5], a2] w0 (fun e w1 => ∃ (x2 : Int) (x3 : Int) (x4 : Int) (b5 : Bool), e = .returned (.tuple #[.agg #[.int .i64 x2, .int .i64 x3, .int .i64 x4], .bool b5]) ∧ w1.heap[w.heap.size]? = w0.heap[w.heap.size]? ∧
 ∀ w6 : World, w6 = w1.alloc (.cells #[.int .i64 0, .int .i64 0, .int .i64 0] 41) →
 ∀ w7 : World, w7 = w6.setRow w1.heap.size #[.int .i64 x2, .int .i64 x3, .int .i64 x4] →
 R (.returned (.bool b5)) w7)
theorem probe_any.vc {a0 a1_0 a1_1 a1_2 a1_3 a1_4 a1_5 a2 w} {R : Ending → World → Prop} (h : probe_any.pre a0 a1_0 a1_1 a1_2 a1_3 a1_4 a1_5 a2 w R) : Calls Tryz.prog n_probe_any #[a0, .agg #[.int .i64 a1_0, .int .i64 a1_1, .int .i64 a1_2, .int .i64 a1_3, .int .i64 a1_4, .int .i64 a1_5], a2] w R :=
 calls_of_eq (an := ⟨[], [], []⟩) (args := [a0, .agg #[.int .i64 a1_0, .int .i64 a1_1, .int .i64 a1_2, .int .i64 a1_3, .int .i64 a1_4, .int .i64 a1_5], a2]) Tryz.noNG Tryz.mixed Tryz.func102 h (by kernel_rfl)
def vec_Stand.pre (a0_0 : Int) (a0_1 : Int) (a0_2 : Int) (a1 : Int) (a2 : Int) (w : World) (R : Ending → World → Prop) : Prop :=
 ∀ w0 : World, w0 = w.alloc (.cells #[.int .i64 a0_0, .int .i64 a0_1, .int .i64 a0_2] 28) →
 ∀ w1 : World, w1 = w0.alloc (.cells #[.int .i64 0, .int .i64 0, .int .i64 0, .int .i64 0, .int .i64 0, .int .i64 0] 107) →
 ∀ w2 : World, w2 = w1.alloc (.cells #[.int .i64 0, .int .i64 0, .int .i64 0] 28) →
 ∀ w3 : World, w3 = w2.setRow w1.heap.size #[.int .i64 (IntKind.wrap .i64 (Int.tdiv (if 0 > a1 then 0 else a1) 2)), .int .i64 0, .int .i64 (IntKind.wrap .i64 (Int.tdiv (if 0 > a1 then 0 else a1) 2))] →
 (Calls Tryz.prog n_vec_Sub #[.agg #[.int .i64 a0_0, .int .i64 a0_1, .int .i64 a0_2], .agg #[.int .i64 (IntKind.wrap .i64 (Int.tdiv (if 0 > a1 then 0 else a1) 2)), .int .i64 0, .int .i64 (IntKind.wrap .i64 (Int.tdiv (if 0 > a1 then 0 else a1) 2))]] w3.drew (fun e w4 => ∃ (x5 : Int) (x6 : Int) (x7 : Int), e = .returned (.agg #[.int .i64 x5, .int .i64 x6, .int .i64 x7]) ∧ w4.heap[w.heap.size]? = w3.drew.heap[w.heap.size]? ∧ w4.heap[w0.heap.size]? = w3.drew.heap[w0.heap.size]? ∧ w4.heap[w1.heap.size]? = w3.drew.heap[w1.heap.size]? ∧
 LoadL w4 (some ⟨w.heap.size, 0, none⟩) 0 [.int .i64 a0_0, .int .i64 a0_1, .int .i64 a0_2] ∧ Calls Tryz.prog n_vec_Add #[.agg #[.int .i64 a0_0, .int .i64 a0_1, .int .i64 a0_2], .agg #[.int .i64 (IntKind.wrap .i64 (Int.tdiv (if 0 > a1 then 0 else a1) 2)), .int .i64 (if 0 > a2 then 0 else a2), .int .i64 (IntKind.wrap .i64 (Int.tdiv (if 0 > a1 then 0 else a1) 2))]] w4 (fun e w8 => ∃ (x9 : Int) (x10 : Int) (x11 : Int), e = .returned (.agg #[.int .i64 x9, .int .i64 x10, .int .i64 x11]) ∧ w8.heap[w.heap.size]? = w4.heap[w.heap.size]? ∧ w8.heap[w0.heap.size]? = w4.heap[w0.heap.size]? ∧ w8.heap[w1.heap.size]? = w4.heap[w1.heap.size]? ∧
 ∀ w12 : World, w12 = w8.setRow w0.heap.size #[.int .i64 x5, .int .i64 x6, .int .i64 x7, .int .i64 x9, .int .i64 x10, .int .i64 x11] →
 R (.returned (.agg #[.int .i64 x5, .int .i64 x6, .int .i64 x7, .int .i64 x9, .int .i64 x10, .int .i64 x11])) w12))) ∧ (Calls Tryz.prog n_vec_Sub #[.agg #[.int .i64 a0_0, .int .i64 a0_1, .int .i64 a0_2], .agg #[.int .i64 (IntKind.wrap .i64 (Int.tdiv (if 0 > a1 then 0 else a1) 2)), .int .i64 0, .int .i64 (IntKind.wrap .i64 (Int.tdiv (if 0 > a1 then 0 else a1) 2))]] w3.drew (fun e w13 => ∃ (x14 : Int) (x15 : Int) (x16 : Int), e = .returned (.agg #[.int .i64 x14, .int .i64 x15, .int .i64 x16]) ∧ w13.heap[w.heap.size]? = w3.drew.heap[w.heap.size]? ∧ w13.heap[w0.heap.size]? = w3.drew.heap[w0.heap.size]? ∧ w13.heap[w1.heap.size]? = w3.drew.heap[w1.heap.size]? ∧
 LoadL w13 (some ⟨w.heap.size, 0, none⟩) 0 [.int .i64 a0_0, .int .i64 a0_1, .int .i64 a0_2] ∧ Calls Tryz.prog n_vec_Add #[.agg #[.int .i64 a0_0, .int .i64 a0_1, .int .i64 a0_2], .agg #[.int .i64 (IntKind.wrap .i64 (Int.tdiv (if 0 > a1 then 0 else a1) 2)), .int .i64 (if 0 > a2 then 0 else a2), .int .i64 (IntKind.wrap .i64 (Int.tdiv (if 0 > a1 then 0 else a1) 2))]] w13 (fun e w17 => ∃ (x18 : Int) (x19 : Int) (x20 : Int), e = .returned (.agg #[.int .i64 x18, .int .i64 x19, .int .i64 x20]) ∧ w17.heap[w.heap.size]? = w13.heap[w.heap.size]? ∧ w17.heap[w0.heap.size]? = w13.heap[w0.heap.size]? ∧ w17.heap[w1.heap.size]? = w13.heap[w1.heap.size]? ∧
 ∀ w21 : World, w21 = w17.setRow w0.heap.size #[.int .i64 x14, .int .i64 x15, .int .i64 x16, .int .i64 x18, .int .i64 x19, .int .i64 x20] →
 R (.returned (.agg #[.int .i64 x14, .int .i64 x15, .int .i64 x16, .int .i64 x18, .int .i64 x19, .int .i64 x20])) w21)))
theorem vec_Stand.vc {a0_0 a0_1 a0_2 a1 a2 w} {R : Ending → World → Prop} (h : vec_Stand.pre a0_0 a0_1 a0_2 a1 a2 w R) : Calls Tryz.prog n_vec_Stand #[.agg #[.int .i64 a0_0, .int .i64 a0_1, .int .i64 a0_2], .int .i64 a1, .int .i64 a2] w R :=
 calls_of_eq (an := ⟨[], [], []⟩) (args := [.agg #[.int .i64 a0_0, .int .i64 a0_1, .int .i64 a0_2], .int .i64 a1, .int .i64 a2]) Tryz.noNG Tryz.mixed Tryz.func104 h (by kernel_rfl)
def probe_Under.pre (a0_0 : Int) (a0_1 : Int) (a0_2 : Int) (a0_3 : Int) (a0_4 : Int) (a0_5 : Int) (w : World) (R : Ending → World → Prop) : Prop :=
 ∀ w0 : World, w0 = w.alloc (.cells #[.int .i64 a0_0, .int .i64 a0_1, .int .i64 a0_2, .int .i64 a0_3, .int .i64 a0_4, .int .i64 a0_5] 107) →
 ∀ w1 : World, w1 = w0.alloc (.cells #[.int .i64 0, .int .i64 0, .int .i64 0, .int .i64 0, .int .i64 0, .int .i64 0] 107) →
 Calls Tryz.prog n_fixed_Sub #[.int .i64 a0_1, .int .i64 1] w1.drew (fun e w2 => ∃ (x3 : Int), e = .returned (.int .i64 x3) ∧ w2.heap[w.heap.size]? = w1.drew.heap[w.heap.size]? ∧ w2.heap[w0.heap.size]? = w1.drew.heap[w0.heap.size]? ∧
 LoadL w2 (some ⟨w.heap.size, 3, none⟩) 0 [.int .i64 a0_3, .int .i64 a0_4, .int .i64 a0_5] ∧ LoadL w2 (some ⟨w.heap.size, 0, none⟩) 0 [.int .i64 a0_0, .int .i64 a0_1, .int .i64 a0_2] ∧ Calls Tryz.prog n_vec_With #[.agg #[.int .i64 a0_0, .int .i64 a0_1, .int .i64 a0_2], .int .i64 1, .int .i64 x3] w2 (fun e w4 => ∃ (x5 : Int) (x6 : Int) (x7 : Int), e = .returned (.agg #[.int .i64 x5, .int .i64 x6, .int .i64 x7]) ∧ w4.heap[w.heap.size]? = w2.heap[w.heap.size]? ∧ w4.heap[w0.heap.size]? = w2.heap[w0.heap.size]? ∧
 LoadL w4 (some ⟨w.heap.size, 3, none⟩) 0 [.int .i64 a0_3, .int .i64 a0_4, .int .i64 a0_5] ∧ Calls Tryz.prog n_vec_With #[.agg #[.int .i64 a0_3, .int .i64 a0_4, .int .i64 a0_5], .int .i64 1, .int .i64 a0_1] w4 (fun e w8 => ∃ (x9 : Int) (x10 : Int) (x11 : Int), e = .returned (.agg #[.int .i64 x9, .int .i64 x10, .int .i64 x11]) ∧ w8.heap[w.heap.size]? = w4.heap[w.heap.size]? ∧ w8.heap[w0.heap.size]? = w4.heap[w0.heap.size]? ∧
 ∀ w12 : World, w12 = w8.setRow w0.heap.size #[.int .i64 x5, .int .i64 x6, .int .i64 x7, .int .i64 x9, .int .i64 x10, .int .i64 x11] →
 R (.returned (.agg #[.int .i64 x5, .int .i64 x6, .int .i64 x7, .int .i64 x9, .int .i64 x10, .int .i64 x11])) w12)))
theorem probe_Under.vc {a0_0 a0_1 a0_2 a0_3 a0_4 a0_5 w} {R : Ending → World → Prop} (h : probe_Under.pre a0_0 a0_1 a0_2 a0_3 a0_4 a0_5 w R) : Calls Tryz.prog n_probe_Under #[.agg #[.int .i64 a0_0, .int .i64 a0_1, .int .i64 a0_2, .int .i64 a0_3, .int .i64 a0_4, .int .i64 a0_5]] w R :=
 calls_of_eq (an := ⟨[], [], []⟩) (args := [.agg #[.int .i64 a0_0, .int .i64 a0_1, .int .i64 a0_2, .int .i64 a0_3, .int .i64 a0_4, .int .i64 a0_5]]) Tryz.noNG Tryz.mixed Tryz.func105 h (by kernel_rfl)
def vec_Add.pre (a0_0 : Int) (a0_1 : Int) (a0_2 : Int) (a1_0 : Int) (a1_1 : Int) (a1_2 : Int) (w : World) (R : Ending → World → Prop) : Prop :=
 ∀ w0 : World, w0 = w.alloc (.cells #[.int .i64 a0_0, .int .i64 a0_1, .int .i64 a0_2] 28) →
 ∀ w1 : World, w1 = w0.alloc (.cells #[.int .i64 a1_0, .int .i64 a1_1, .int .i64 a1_2] 28) →
 ∀ w2 : World, w2 = w1.alloc (.cells #[.int .i64 0, .int .i64 0, .int .i64 0] 28) →
 Calls Tryz.prog n_vec_each #[.agg #[.int .i64 a0_0, .int .i64 a0_1, .int .i64 a0_2], .func (.func 204) #[] #[.pointer (some ⟨w0.heap.size, 0, none⟩)]] w2 (fun e w3 => ∃ (x4 : Int) (x5 : Int) (x6 : Int), e = .returned (.agg #[.int .i64 x4, .int .i64 x5, .int .i64 x6]) ∧ w3.heap[w.heap.size]? = w2.heap[w.heap.size]? ∧ w3.heap[w1.heap.size]? = w2.heap[w1.heap.size]? ∧
 ∀ w7 : World, w7 = w3.setRow w1.heap.size #[.int .i64 x4, .int .i64 x5, .int .i64 x6] →
 R (.returned (.agg #[.int .i64 x4, .int .i64 x5, .int .i64 x6])) w7)
theorem vec_Add.vc {a0_0 a0_1 a0_2 a1_0 a1_1 a1_2 w} {R : Ending → World → Prop} (h : vec_Add.pre a0_0 a0_1 a0_2 a1_0 a1_1 a1_2 w R) : Calls Tryz.prog n_vec_Add #[.agg #[.int .i64 a0_0, .int .i64 a0_1, .int .i64 a0_2], .agg #[.int .i64 a1_0, .int .i64 a1_1, .int .i64 a1_2]] w R :=
 calls_of_eq (an := ⟨[], [], []⟩) (args := [.agg #[.int .i64 a0_0, .int .i64 a0_1, .int .i64 a0_2], .agg #[.int .i64 a1_0, .int .i64 a1_1, .int .i64 a1_2]]) Tryz.noNG Tryz.mixed Tryz.func145 h (by kernel_rfl)
def fixed_Floor.pre (a0 : Int) (w : World) (R : Ending → World → Prop) : Prop :=
 Calls Tryz.prog n_fixed_Cut #[.int .i64 a0] w (fun e w0 => ∃ (x1 : Int), e = .returned (.int .i64 x1) ∧
 R (.returned (.int .i64 ((x1 : Int).fdiv (2 ^ (min (16 : Int).toNat 64))))) w0)
theorem fixed_Floor.vc {a0 w} {R : Ending → World → Prop} (h : fixed_Floor.pre a0 w R) : Calls Tryz.prog n_fixed_Floor #[.int .i64 a0] w R :=
 calls_of_eq (an := ⟨[], [], []⟩) (args := [.int .i64 a0]) Tryz.noNG Tryz.mixed Tryz.func152 h (by kernel_rfl)
def probe_Find.pre (a0 : Value) (a1_0 : Int) (a1_1 : Int) (a1_2 : Int) (a1_3 : Int) (a1_4 : Int) (a1_5 : Int) (a2 : Value) (w : World) (R : Ending → World → Prop) : Prop :=
 AndL (oneC a0) (
 ∀ w0 : World, w0 = w.alloc (.cells #[a0] 65) →
 ∀ w1 : World, w1 = w0.alloc (.cells #[.int .i64 a1_0, .int .i64 a1_1, .int .i64 a1_2, .int .i64 a1_3, .int .i64 a1_4, .int .i64 a1_5] 107) →
 AndL (oneC a2) (
 ∀ w2 : World, w2 = w1.alloc (.cells #[a2] 180) →
 ∀ w3 : World, w3 = w2.alloc (.cells #[.int .i64 0, .int .i64 0, .int .i64 0] 41) →
 ∀ w4 : World, w4 = w3.alloc (.cells #[.bool false] 4) →
 Calls Tryz.prog n_probe_each #[.agg #[.int .i64 a1_0, .int .i64 a1_1, .int .i64 a1_2, .int .i64 a1_3, .int .i64 a1_4, .int .i64 a1_5]] w4 (fun e w5 => ∃ (v6 : Value), e = .returned (v6) ∧ w5.heap[w.heap.size]? = w4.heap[w.heap.size]? ∧ w5.heap[w0.heap.size]? = w4.heap[w0.heap.size]? ∧ w5.heap[w1.heap.size]? = w4.heap[w1.heap.size]? ∧ w5.heap[w2.heap.size]? = w4.heap[w2.heap.size]? ∧ w5.heap[w3.heap.size]? = w4.heap[w3.heap.size]? ∧
 ∃ (xs7 : List (List Value)) (Rd8 F9 : Nat → Prop) (I10 : Nat → (Nat → Prop) → Int → Int → Int → Bool → World → Prop) (X11 : Option Nat → (Nat → Prop) → Int → Int → Int → Bool → World → Prop),
 (∀ x ∈ xs7, ∃ (x12 : Int) (x13 : Int) (x14 : Int), x = [.agg #[.int .i64 x12, .int .i64 x13, .int .i64 x14]]) ∧
 (∀ (n15 : Nat) (F16 : Nat → Prop) (x17 : Int) (x18 : Int) (x19 : Int) (b20 : Bool) (w21 w22 : World), I10 n15 F16 x17 x18 x19 b20 w21 → Below w5.heap.size w21 w22 → (∀ i, F16 i → w22.heap[i]? = w21.heap[i]?) → I10 n15 F16 x17 x18 x19 b20 w22) ∧
 (∀ (n23 : Option Nat) (F24 : Nat → Prop) (x25 : Int) (x26 : Int) (x27 : Int) (b28 : Bool) (w29 w30 : World), X11 n23 F24 x25 x26 x27 b28 w29 → Below w5.heap.size w29 w30 → (∀ i, F24 i → w30.heap[i]? = w29.heap[i]?) → X11 n23 F24 x25 x26 x27 b28 w30) ∧
 (∀ (n31 : Nat) (F32 : Nat → Prop) (x33 : Int) (x34 : Int) (x35 : Int) (b36 : Bool) (w37 : World), I10 n31 F32 x33 x34 x35 b36 w37 → ∀ i, F32 i → i < w37.heap.size ∧ i ≠ w5.heap.size ∧ i ≠ w5.heap.size + 1) ∧
 (∀ (n38 : Option Nat) (F39 : Nat → Prop) (x40 : Int) (x41 : Int) (x42 : Int) (b43 : Bool) (w44 : World), X11 n38 F39 x40 x41 x42 b43 w44 → ∀ i, F39 i → i < w44.heap.size ∧ i ≠ w5.heap.size ∧ i ≠ w5.heap.size + 1) ∧
 (∀ i, Rd8 i → i < w5.heap.size ∧ ¬ F9 i ∧ i ≠ w.heap.size ∧ i ≠ w0.heap.size ∧ i ≠ w1.heap.size ∧ i ≠ w2.heap.size ∧ i ≠ w3.heap.size ∧ True) ∧
 (∀ w45 : World, Begun w5.heap.size w5 w45 → Iter Tryz.prog (v6) w45 Rd8 xs7 ∧ ([a0] : List Value) = [a0] ∧ ([.int .i64 a1_0, .int .i64 a1_1, .int .i64 a1_2, .int .i64 a1_3, .int .i64 a1_4, .int .i64 a1_5] : List Value) = [.int .i64 a1_0, .int .i64 a1_1, .int .i64 a1_2, .int .i64 a1_3, .int .i64 a1_4, .int .i64 a1_5] ∧ ([a2] : List Value) = [a2] ∧ I10 0 F9 (0) (0) (0) false w45) ∧
 (∀ (n46 : Nat) (F47 : Nat → Prop) (us48 : Nat → Value) (x49 : Int) (x50 : Int) (x51 : Int) (b52 : Bool) (x53 : Int) (x54 : Int) (x55 : Int) (w56 : World), xs7[n46]? = some [.agg #[.int .i64 x53, .int .i64 x54, .int .i64 x55]] → I10 n46 F47 x49 x50 x51 b52 w56 →
 ∀ w58 : World, w58 = w56.alloc (.cells #[.int .i64 0, .int .i64 0, .int .i64 0] 41) →
 ∀ w59 : World, w59 = w58.setRow w56.heap.size #[.int .i64 x53, .int .i64 x54, .int .i64 x55] →
 Below w56.heap.size w56 w59 ∧ ∀ w57 : World, Rec (w5.heap.size + 1) w59 w57 → I10 n46 F47 x49 x50 x51 b52 w57 →
 callV Tryz.prog a0 [.agg #[.int .i64 x53, .int .i64 x54, .int .i64 x55]] w57.drew (fun e w60 => ∃ (x61 : Int), e = .returned (.int .i64 x61) ∧ w60.heap[w.heap.size]? = w57.drew.heap[w.heap.size]? ∧ w60.heap[w0.heap.size]? = w57.drew.heap[w0.heap.size]? ∧ w60.heap[w1.heap.size]? = w57.drew.heap[w1.heap.size]? ∧ w60.heap[w2.heap.size]? = w57.drew.heap[w2.heap.size]? ∧ w60.heap[w3.heap.size]? = w57.drew.heap[w3.heap.size]? ∧ w60.heap[w56.heap.size]? = w57.drew.heap[w56.heap.size]? ∧
 LoadL w60 (some ⟨w1.heap.size, 0, none⟩) 0 [a2] ∧ callV Tryz.prog a2 [.int .i64 x61] w60 (fun e w62 => ∃ (b63 : Bool), e = .returned (.bool b63) ∧ w62.heap[w.heap.size]? = w60.heap[w.heap.size]? ∧ w62.heap[w0.heap.size]? = w60.heap[w0.heap.size]? ∧ w62.heap[w1.heap.size]? = w60.heap[w1.heap.size]? ∧ w62.heap[w2.heap.size]? = w60.heap[w2.heap.size]? ∧ w62.heap[w3.heap.size]? = w60.heap[w3.heap.size]? ∧ w62.heap[w56.heap.size]? = w60.heap[w56.heap.size]? ∧
 Br b63
 (∀ w64 : World, w64 = w62.setRow w2.heap.size #[.int .i64 x53, .int .i64 x54, .int .i64 x55] →
 ∀ w65 : World, w65 = w64.setRow w3.heap.size #[.bool true] →
 true = true ∧ ∃ F66 : Nat → Prop, (([a0] : List Value) = [a0] ∧ ([.int .i64 a1_0, .int .i64 a1_1, .int .i64 a1_2, .int .i64 a1_3, .int .i64 a1_4, .int .i64 a1_5] : List Value) = [.int .i64 a1_0, .int .i64 a1_1, .int .i64 a1_2, .int .i64 a1_3, .int .i64 a1_4, .int .i64 a1_5] ∧ ([a2] : List Value) = [a2] ∧ X11 none F66 (x53) (x54) (x55) true w65) ∧ Step (fun i => F47 i ∨ i ∈ ([w.heap.size, w0.heap.size, w1.heap.size, w2.heap.size, w3.heap.size] : List Nat)) (fun i => F66 i ∨ i ∈ ([w.heap.size, w0.heap.size, w1.heap.size, w2.heap.size, w3.heap.size] : List Nat)) w57 w65)
 (∃ F67 : Nat → Prop, (([a0] : List Value) = [a0] ∧ ([.int .i64 a1_0, .int .i64 a1_1, .int .i64 a1_2, .int .i64 a1_3, .int .i64 a1_4, .int .i64 a1_5] : List Value) = [.int .i64 a1_0, .int .i64 a1_1, .int .i64 a1_2, .int .i64 a1_3, .int .i64 a1_4, .int .i64 a1_5] ∧ ([a2] : List Value) = [a2] ∧ I10 (n46 + 1) F67 (x49) (x50) (x51) b52 w62) ∧ Step (fun i => F47 i ∨ i ∈ ([w.heap.size, w0.heap.size, w1.heap.size, w2.heap.size, w3.heap.size] : List Nat)) (fun i => F67 i ∨ i ∈ ([w.heap.size, w0.heap.size, w1.heap.size, w2.heap.size, w3.heap.size] : List Nat)) w57 w62)))) ∧
 (∀ (F68 : Nat → Prop) (us69 : Nat → Value) (x70 : Int) (x71 : Int) (x72 : Int) (b73 : Bool) (w74 : World), I10 xs7.length F68 x70 x71 x72 b73 w74 → w74.heap[w5.heap.size]? = some (.deferred (some [])) →
 ∀ w75 : World, w75 = w74.setRow w2.heap.size #[.int .i64 0, .int .i64 0, .int .i64 0] →
 ∀ w76 : World, w76 = w75.setRow w3.heap.size #[.bool false] →
 w76.heap[w5.heap.size]? = some (.deferred (some [])) ∧ ∀ w77 : World, Rec w5.heap.size w76 w77 →
 R (.returned (.tuple #[.agg #[.int .i64 0, .int .i64 0, .int .i64 0], .bool false])) w77) ∧
 (∀ (F78 : Nat → Prop) (us79 : Nat → Value) (x80 : Int) (x81 : Int) (x82 : Int) (b83 : Bool) (w84 : World), X11 none F78 x80 x81 x82 b83 w84 → w84.heap[w5.heap.size]? = some (.deferred (some [])) →
 w84.heap[w5.heap.size]? = some (.deferred (some [])) ∧ ∀ w85 : World, Rec w5.heap.size w84 w85 →
 R (.returned (.tuple #[.agg #[.int .i64 x80, .int .i64 x81, .int .i64 x82], .bool b83])) w85))))
theorem probe_Find.vc {a0 a1_0 a1_1 a1_2 a1_3 a1_4 a1_5 a2 w} {R : Ending → World → Prop} (h : probe_Find.pre a0 a1_0 a1_1 a1_2 a1_3 a1_4 a1_5 a2 w R) : Calls Tryz.prog n_probe_Find #[a0, .agg #[.int .i64 a1_0, .int .i64 a1_1, .int .i64 a1_2, .int .i64 a1_3, .int .i64 a1_4, .int .i64 a1_5], a2] w R :=
 calls_of_eq (an := ⟨[], [], [(3, ⟨[], [(3, [.int .i64, .int .i64, .int .i64]), (4, [.bool])], []⟩, [.agg [.int .i64, .int .i64, .int .i64]])]⟩) (args := [a0, .agg #[.int .i64 a1_0, .int .i64 a1_1, .int .i64 a1_2, .int .i64 a1_3, .int .i64 a1_4, .int .i64 a1_5], a2]) Tryz.noNG Tryz.mixed Tryz.func153 h (by kernel_rfl)
def vec_Sub.pre (a0_0 : Int) (a0_1 : Int) (a0_2 : Int) (a1_0 : Int) (a1_1 : Int) (a1_2 : Int) (w : World) (R : Ending → World → Prop) : Prop :=
 ∀ w0 : World, w0 = w.alloc (.cells #[.int .i64 a0_0, .int .i64 a0_1, .int .i64 a0_2] 28) →
 ∀ w1 : World, w1 = w0.alloc (.cells #[.int .i64 a1_0, .int .i64 a1_1, .int .i64 a1_2] 28) →
 ∀ w2 : World, w2 = w1.alloc (.cells #[.int .i64 0, .int .i64 0, .int .i64 0] 28) →
 Calls Tryz.prog n_vec_each #[.agg #[.int .i64 a0_0, .int .i64 a0_1, .int .i64 a0_2], .func (.func 216) #[] #[.pointer (some ⟨w0.heap.size, 0, none⟩)]] w2 (fun e w3 => ∃ (x4 : Int) (x5 : Int) (x6 : Int), e = .returned (.agg #[.int .i64 x4, .int .i64 x5, .int .i64 x6]) ∧ w3.heap[w.heap.size]? = w2.heap[w.heap.size]? ∧ w3.heap[w1.heap.size]? = w2.heap[w1.heap.size]? ∧
 ∀ w7 : World, w7 = w3.setRow w1.heap.size #[.int .i64 x4, .int .i64 x5, .int .i64 x6] →
 R (.returned (.agg #[.int .i64 x4, .int .i64 x5, .int .i64 x6])) w7)
theorem vec_Sub.vc {a0_0 a0_1 a0_2 a1_0 a1_1 a1_2 w} {R : Ending → World → Prop} (h : vec_Sub.pre a0_0 a0_1 a0_2 a1_0 a1_1 a1_2 w R) : Calls Tryz.prog n_vec_Sub #[.agg #[.int .i64 a0_0, .int .i64 a0_1, .int .i64 a0_2], .agg #[.int .i64 a1_0, .int .i64 a1_1, .int .i64 a1_2]] w R :=
 calls_of_eq (an := ⟨[], [], []⟩) (args := [.agg #[.int .i64 a0_0, .int .i64 a0_1, .int .i64 a0_2], .agg #[.int .i64 a1_0, .int .i64 a1_1, .int .i64 a1_2]]) Tryz.noNG Tryz.mixed Tryz.func154 h (by kernel_rfl)
def vec_With.pre (a0_0 : Int) (a0_1 : Int) (a0_2 : Int) (a1 : Int) (a2 : Int) (w : World) (R : Ending → World → Prop) : Prop :=
 ∀ w0 : World, w0 = w.alloc (.cells #[.int .i64 a0_0, .int .i64 a0_1, .int .i64 a0_2] 28) →
 ∀ w1 : World, w1 = w0.alloc (.cells #[.int .i64 a1] 3) →
 ∀ w2 : World, w2 = w1.alloc (.cells #[.int .i64 a2] 3) →
 ∀ w3 : World, w3 = w2.alloc (.cells #[.int .i64 0, .int .i64 0, .int .i64 0] 28) →
 Calls Tryz.prog n_vec_each #[.agg #[.int .i64 a0_0, .int .i64 a0_1, .int .i64 a0_2], .func (.func 217) #[] #[.pointer (some ⟨w0.heap.size, 0, none⟩), .pointer (some ⟨w1.heap.size, 0, none⟩)]] w3 (fun e w4 => ∃ (x5 : Int) (x6 : Int) (x7 : Int), e = .returned (.agg #[.int .i64 x5, .int .i64 x6, .int .i64 x7]) ∧ w4.heap[w.heap.size]? = w3.heap[w.heap.size]? ∧ w4.heap[w2.heap.size]? = w3.heap[w2.heap.size]? ∧
 ∀ w8 : World, w8 = w4.setRow w2.heap.size #[.int .i64 x5, .int .i64 x6, .int .i64 x7] →
 R (.returned (.agg #[.int .i64 x5, .int .i64 x6, .int .i64 x7])) w8)
theorem vec_With.vc {a0_0 a0_1 a0_2 a1 a2 w} {R : Ending → World → Prop} (h : vec_With.pre a0_0 a0_1 a0_2 a1 a2 w R) : Calls Tryz.prog n_vec_With #[.agg #[.int .i64 a0_0, .int .i64 a0_1, .int .i64 a0_2], .int .i64 a1, .int .i64 a2] w R :=
 calls_of_eq (an := ⟨[], [], []⟩) (args := [.agg #[.int .i64 a0_0, .int .i64 a0_1, .int .i64 a0_2], .int .i64 a1, .int .i64 a2]) Tryz.noNG Tryz.mixed Tryz.func155 h (by kernel_rfl)
def fixed_Sub.pre (a0 : Int) (a1 : Int) (w : World) (R : Ending → World → Prop) : Prop :=
 Calls Tryz.prog n_fixed_Cut #[.int .i64 a0] w (fun e w0 => ∃ (x1 : Int), e = .returned (.int .i64 x1) ∧
 Calls Tryz.prog n_fixed_Cut #[.int .i64 a1] w0 (fun e w2 => ∃ (x3 : Int), e = .returned (.int .i64 x3) ∧
 Calls Tryz.prog n_fixed_Cut #[.int .i64 (IntKind.wrap .i64 (x1 - x3))] w2 (fun e w4 => ∃ (x5 : Int), e = .returned (.int .i64 x5) ∧
 R (.returned (.int .i64 x5)) w4)))
theorem fixed_Sub.vc {a0 a1 w} {R : Ending → World → Prop} (h : fixed_Sub.pre a0 a1 w R) : Calls Tryz.prog n_fixed_Sub #[.int .i64 a0, .int .i64 a1] w R :=
 calls_of_eq (an := ⟨[], [], []⟩) (args := [.int .i64 a0, .int .i64 a1]) Tryz.noNG Tryz.mixed Tryz.func156 h (by kernel_rfl)
def vec_Axis.pre (a0_0 : Int) (a0_1 : Int) (a0_2 : Int) (a1 : Int) (w : World) (R : Ending → World → Prop) : Prop :=
 ∀ w0 : World, w0 = w.alloc (.cells #[.int .i64 a0_0, .int .i64 a0_1, .int .i64 a0_2] 28) →
 Br (decide ((a1 : Int) < 0))
 (R (.returned (.int .i64 0)) w0)
 (Br (decide ((a1 : Int) ≥ 3))
 (R (.returned (.int .i64 0)) w0)
 (Calls Tryz.prog n_vec_parts #[.pointer (some ⟨w.heap.size, 0, none⟩)] w0 (fun e w1 => ∃ (p2 : Option Addr) (p3 : Option Addr) (p4 : Option Addr), e = .returned (.agg #[.pointer p2, .pointer p3, .pointer p4]) ∧
 ((0 : Int) ≤ a1 ∧ (a1 : Int) < ((3 : Nat) : Int)) ∧ ∃ (p5 : Option Addr), ([.pointer p2, .pointer p3, .pointer p4] : List Value)[(a1 : Int).toNat * 1]? = some (.pointer p5) ∧
 AndL (nnC p5) (∃ (x6 : Int), ld w1 p5 = some (.int .i64 x6) ∧
 R (.returned (.int .i64 x6)) w1))))
theorem vec_Axis.vc {a0_0 a0_1 a0_2 a1 w} {R : Ending → World → Prop} (h : vec_Axis.pre a0_0 a0_1 a0_2 a1 w R) : Calls Tryz.prog n_vec_Axis #[.agg #[.int .i64 a0_0, .int .i64 a0_1, .int .i64 a0_2], .int .i64 a1] w R :=
 calls_of_eq (an := ⟨[], [], []⟩) (args := [.agg #[.int .i64 a0_0, .int .i64 a0_1, .int .i64 a0_2], .int .i64 a1]) Tryz.noNG Tryz.mixed Tryz.func178 h (by kernel_rfl)
def vec_each.pre (a0_0 : Int) (a0_1 : Int) (a0_2 : Int) (a1 : Value) (w : World) (R : Ending → World → Prop) : Prop :=
 ∀ w0 : World, w0 = w.alloc (.cells #[.int .i64 a0_0, .int .i64 a0_1, .int .i64 a0_2] 28) →
 ∀ w1 : World, w1 = w0.alloc (.cells #[.int .i64 0, .int .i64 0, .int .i64 0] 28) →
 Calls Tryz.prog n_vec_parts #[.pointer (some ⟨w.heap.size, 0, none⟩)] w1 (fun e w2 => ∃ (p3 : Option Addr) (p4 : Option Addr) (p5 : Option Addr), e = .returned (.agg #[.pointer p3, .pointer p4, .pointer p5]) ∧ w2.heap[w0.heap.size]? = w1.heap[w0.heap.size]? ∧
 ∃ I6 : Nat → Int → World → Prop,
 (∃ n7, ([.int .i64 0, .int .i64 0, .int .i64 0] : List Value) = [.int .i64 0, .int .i64 0, .int .i64 0] ∧ I6 n7 (0) w2) ∧
 ∀ (n7 : Nat) (us8 : Nat → Value) (x9 : Int) (w10 : World), I6 n7 x9 w10 →
 Br (decide ((x9 : Int) < 3))
 (((0 : Int) ≤ x9 ∧ (x9 : Int) < ((3 : Nat) : Int)) ∧ ∃ (p12 : Option Addr), ([.pointer p3, .pointer p4, .pointer p5] : List Value)[(x9 : Int).toNat * 1]? = some (.pointer p12) ∧
 AndL (nnC p12) (∃ (x13 : Int), ld w10 p12 = some (.int .i64 x13) ∧
 callV Tryz.prog a1 [.int .i64 x9, .int .i64 x13] w10 (fun e w14 => ∃ (x15 : Int), e = .returned (.int .i64 x15) ∧ w14.heap[w0.heap.size]? = w10.heap[w0.heap.size]? ∧
 AndL (nnC p12) (((p12).isSome = true ∧ Wr w14 p12 1) ∧ pblk p12 ≠ some w0.heap.size ∧ (∀ w16 : World, w16 = setP w14 p12 [.int .i64 x15] →
 ∃ n11, n11 < n7 ∧ ([.int .i64 0, .int .i64 0, .int .i64 0] : List Value) = [.int .i64 0, .int .i64 0, .int .i64 0] ∧ I6 n11 ((IntKind.wrap .i64 (x9 + 1))) w16)))))
 (∃ (x17 : Int) (x18 : Int) (x19 : Int), LoadL w10 (some ⟨w.heap.size, 0, none⟩) 0 [.int .i64 x17, .int .i64 x18, .int .i64 x19] ∧
 ∀ w20 : World, w20 = w10.setRow w0.heap.size #[.int .i64 x17, .int .i64 x18, .int .i64 x19] →
 R (.returned (.agg #[.int .i64 x17, .int .i64 x18, .int .i64 x19])) w20))
theorem vec_each.vc {a0_0 a0_1 a0_2 a1 w} {R : Ending → World → Prop} (h : vec_each.pre a0_0 a0_1 a0_2 a1 w R) : Calls Tryz.prog n_vec_each #[.agg #[.int .i64 a0_0, .int .i64 a0_1, .int .i64 a0_2], a1] w R :=
 calls_of_eq (an := ⟨[(2, ⟨[(8, .int .i64)], [], []⟩)], [], []⟩) (args := [.agg #[.int .i64 a0_0, .int .i64 a0_1, .int .i64 a0_2], a1]) Tryz.noNG Tryz.mixed Tryz.func203 h (by kernel_rfl)
def vec_Add_1.pre (a0 : Int) (a1 : Int) (c0 : Addr) (w : World) (R : Ending → World → Prop) : Prop :=
 ∃ (x0 : Int) (x1 : Int) (x2 : Int), LoadL w (some c0) 0 [.int .i64 x0, .int .i64 x1, .int .i64 x2] ∧
 Calls Tryz.prog n_vec_Axis #[.agg #[.int .i64 x0, .int .i64 x1, .int .i64 x2], .int .i64 a0] w (fun e w3 => ∃ (x4 : Int), e = .returned (.int .i64 x4) ∧
 Calls Tryz.prog n_fixed_Add #[.int .i64 a1, .int .i64 x4] w3 (fun e w5 => ∃ (x6 : Int), e = .returned (.int .i64 x6) ∧
 R (.returned (.int .i64 x6)) w5))
theorem vec_Add_1.vc {a0 a1 c0 w} {R : Ending → World → Prop} (h : vec_Add_1.pre a0 a1 c0 w R) : Calls Tryz.prog n_vec_Add_1 #[.int .i64 a0, .int .i64 a1, .pointer (some c0)] w R :=
 calls_of_eq (an := ⟨[], [], []⟩) (args := [.int .i64 a0, .int .i64 a1, .pointer (some c0)]) Tryz.noNG Tryz.mixed Tryz.func204 h (by kernel_rfl)
def fixed_Add.pre (a0 : Int) (a1 : Int) (w : World) (R : Ending → World → Prop) : Prop :=
 Calls Tryz.prog n_fixed_Cut #[.int .i64 a0] w (fun e w0 => ∃ (x1 : Int), e = .returned (.int .i64 x1) ∧
 Calls Tryz.prog n_fixed_Cut #[.int .i64 a1] w0 (fun e w2 => ∃ (x3 : Int), e = .returned (.int .i64 x3) ∧
 Calls Tryz.prog n_fixed_Cut #[.int .i64 (IntKind.wrap .i64 (x1 + x3))] w2 (fun e w4 => ∃ (x5 : Int), e = .returned (.int .i64 x5) ∧
 R (.returned (.int .i64 x5)) w4)))
theorem fixed_Add.vc {a0 a1 w} {R : Ending → World → Prop} (h : fixed_Add.pre a0 a1 w R) : Calls Tryz.prog n_fixed_Add #[.int .i64 a0, .int .i64 a1] w R :=
 calls_of_eq (an := ⟨[], [], []⟩) (args := [.int .i64 a0, .int .i64 a1]) Tryz.noNG Tryz.mixed Tryz.func205 h (by kernel_rfl)
def fixed_Cut.pre (a0 : Int) (w : World) (R : Ending → World → Prop) : Prop :=
 R (.returned (.int .i64 (if 140737488355328 < (if (-140737488355328) > a0 then (-140737488355328) else a0) then 140737488355328 else (if (-140737488355328) > a0 then (-140737488355328) else a0)))) w
theorem fixed_Cut.vc {a0 w} {R : Ending → World → Prop} (h : fixed_Cut.pre a0 w R) : Calls Tryz.prog n_fixed_Cut #[.int .i64 a0] w R :=
 calls_of_eq (an := ⟨[], [], []⟩) (args := [.int .i64 a0]) Tryz.noNG Tryz.mixed Tryz.func214 h (by kernel_rfl)
def probe_each.pre (a0_0 : Int) (a0_1 : Int) (a0_2 : Int) (a0_3 : Int) (a0_4 : Int) (a0_5 : Int) (w : World) (R : Ending → World → Prop) : Prop :=
 ∀ w0 : World, w0 = w.alloc (.cells #[.int .i64 a0_0, .int .i64 a0_1, .int .i64 a0_2, .int .i64 a0_3, .int .i64 a0_4, .int .i64 a0_5] 107) →
 R (.returned (.func (.func 265) #[] #[.pointer (some ⟨w.heap.size, 0, none⟩)])) w0
theorem probe_each.vc {a0_0 a0_1 a0_2 a0_3 a0_4 a0_5 w} {R : Ending → World → Prop} (h : probe_each.pre a0_0 a0_1 a0_2 a0_3 a0_4 a0_5 w R) : Calls Tryz.prog n_probe_each #[.agg #[.int .i64 a0_0, .int .i64 a0_1, .int .i64 a0_2, .int .i64 a0_3, .int .i64 a0_4, .int .i64 a0_5]] w R :=
 calls_of_eq (an := ⟨[], [], []⟩) (args := [.agg #[.int .i64 a0_0, .int .i64 a0_1, .int .i64 a0_2, .int .i64 a0_3, .int .i64 a0_4, .int .i64 a0_5]]) Tryz.noNG Tryz.mixed Tryz.func215 h (by kernel_rfl)
def vec_Sub_1.pre (a0 : Int) (a1 : Int) (c0 : Addr) (w : World) (R : Ending → World → Prop) : Prop :=
 ∃ (x0 : Int) (x1 : Int) (x2 : Int), LoadL w (some c0) 0 [.int .i64 x0, .int .i64 x1, .int .i64 x2] ∧
 Calls Tryz.prog n_vec_Axis #[.agg #[.int .i64 x0, .int .i64 x1, .int .i64 x2], .int .i64 a0] w (fun e w3 => ∃ (x4 : Int), e = .returned (.int .i64 x4) ∧
 Calls Tryz.prog n_fixed_Sub #[.int .i64 a1, .int .i64 x4] w3 (fun e w5 => ∃ (x6 : Int), e = .returned (.int .i64 x6) ∧
 R (.returned (.int .i64 x6)) w5))
theorem vec_Sub_1.vc {a0 a1 c0 w} {R : Ending → World → Prop} (h : vec_Sub_1.pre a0 a1 c0 w R) : Calls Tryz.prog n_vec_Sub_1 #[.int .i64 a0, .int .i64 a1, .pointer (some c0)] w R :=
 calls_of_eq (an := ⟨[], [], []⟩) (args := [.int .i64 a0, .int .i64 a1, .pointer (some c0)]) Tryz.noNG Tryz.mixed Tryz.func216 h (by kernel_rfl)
def vec_With_1.pre (a0 : Int) (a1 : Int) (c0 : Addr) (c1 : Addr) (w : World) (R : Ending → World → Prop) : Prop :=
 ∃ (x0 : Int), ld w (some c0) = some (.int .i64 x0) ∧
 Br ((a0 : Int) == x0)
 (∃ (x1 : Int), ld w (some c1) = some (.int .i64 x1) ∧
 Calls Tryz.prog n_fixed_Cut #[.int .i64 x1] w (fun e w2 => ∃ (x3 : Int), e = .returned (.int .i64 x3) ∧
 R (.returned (.int .i64 x3)) w2))
 (R (.returned (.int .i64 a1)) w)
theorem vec_With_1.vc {a0 a1 c0 c1 w} {R : Ending → World → Prop} (h : vec_With_1.pre a0 a1 c0 c1 w R) : Calls Tryz.prog n_vec_With_1 #[.int .i64 a0, .int .i64 a1, .pointer (some c0), .pointer (some c1)] w R :=
 calls_of_eq (an := ⟨[], [], []⟩) (args := [.int .i64 a0, .int .i64 a1, .pointer (some c0), .pointer (some c1)]) Tryz.noNG Tryz.mixed Tryz.func217 h (by kernel_rfl)
def vec_parts.pre (a0 : Addr) (w : World) (R : Ending → World → Prop) : Prop :=
 ∀ w0 : World, w0 = w.alloc (.cells #[.pointer none, .pointer none, .pointer none] 306) →
 (true = true ∧ Wr w0.drew (some ⟨w.heap.size, 0, none⟩) 3) ∧ (∀ w1 : World, w1 = setP w0.drew (some ⟨w.heap.size, 0, none⟩) [.pointer (padd (some a0) 0), .pointer (padd (some a0) 1), .pointer (padd (some a0) 2)] →
 ∃ (p2 : Option Addr) (p3 : Option Addr) (p4 : Option Addr), LoadL w1 (some ⟨w.heap.size, 0, none⟩) 0 [.pointer p2, .pointer p3, .pointer p4] ∧
 R (.returned (.agg #[.pointer p2, .pointer p3, .pointer p4])) w1)
theorem vec_parts.vc {a0 w} {R : Ending → World → Prop} (h : vec_parts.pre a0 w R) : Calls Tryz.prog n_vec_parts #[.pointer (some a0)] w R :=
 calls_of_eq (an := ⟨[], [], []⟩) (args := [.pointer (some a0)]) Tryz.noNG Tryz.mixed Tryz.func245 h (by kernel_rfl)
def fixed_Frac.pre (a0 : Int) (w : World) (R : Ending → World → Prop) : Prop :=
 Calls Tryz.prog n_fixed_Cut #[.int .i64 a0] w (fun e w0 => ∃ (x1 : Int), e = .returned (.int .i64 x1) ∧
 R (.returned (.int .i64 (bAnd .i64 x1 65535))) w0)
theorem fixed_Frac.vc {a0 w} {R : Ending → World → Prop} (h : fixed_Frac.pre a0 w R) : Calls Tryz.prog n_fixed_Frac #[.int .i64 a0] w R :=
 calls_of_eq (an := ⟨[], [], []⟩) (args := [.int .i64 a0]) Tryz.noNG Tryz.mixed Tryz.func258 h (by kernel_rfl)
def probe_each_1.pre (a0 : Value) (c0 : Addr) (w : World) (R : Ending → World → Prop) : Prop :=
 ∃ (x0 : Int) (x1 : Int) (x2 : Int) (x3 : Int) (x4 : Int) (x5 : Int), LoadL w (some c0) 0 [.int .i64 x0, .int .i64 x1, .int .i64 x2, .int .i64 x3, .int .i64 x4, .int .i64 x5] ∧
 Calls Tryz.prog n_cell_Span #[.agg #[.int .i64 x0, .int .i64 x1, .int .i64 x2, .int .i64 x3, .int .i64 x4, .int .i64 x5]] w (fun e w6 => ∃ (x7 : Int) (x8 : Int) (x9 : Int) (x10 : Int) (x11 : Int) (x12 : Int) (b13 : Bool), e = .returned (.tuple #[.agg #[.int .i64 x7, .int .i64 x8, .int .i64 x9], .agg #[.int .i64 x10, .int .i64 x11, .int .i64 x12], .bool b13]) ∧
 ∀ w14 : World, w14 = w6.alloc (.cells #[.int .i64 0, .int .i64 0, .int .i64 0] 41) →
 ∀ w15 : World, w15 = w14.alloc (.cells #[.int .i64 0, .int .i64 0, .int .i64 0] 41) →
 ∀ w16 : World, w16 = w15.setRow w6.heap.size #[.int .i64 x7, .int .i64 x8, .int .i64 x9] →
 ∀ w17 : World, w17 = w16.setRow w14.heap.size #[.int .i64 x10, .int .i64 x11, .int .i64 x12] →
 ∃ I18 : Nat → Int → World → Prop,
 (∃ n19, ([.int .i64 x7, .int .i64 x8, .int .i64 x9] : List Value) = [.int .i64 x7, .int .i64 x8, .int .i64 x9] ∧ ([.int .i64 x10, .int .i64 x11, .int .i64 x12] : List Value) = [.int .i64 x10, .int .i64 x11, .int .i64 x12] ∧ I18 n19 (x8) w17) ∧
 ∀ (n19 : Nat) (us20 : Nat → Value) (x21 : Int) (w22 : World), I18 n19 x21 w22 →
 Br b13
 (Br (decide ((x21 : Int) ≤ x11))
 (∃ I24 : Nat → Int → World → Prop,
 (∃ n25, ([.int .i64 x7, .int .i64 x8, .int .i64 x9] : List Value) = [.int .i64 x7, .int .i64 x8, .int .i64 x9] ∧ ([.int .i64 x10, .int .i64 x11, .int .i64 x12] : List Value) = [.int .i64 x10, .int .i64 x11, .int .i64 x12] ∧ I24 n25 (x9) w22) ∧
 ∀ (n25 : Nat) (us26 : Nat → Value) (x27 : Int) (w28 : World), I24 n25 x27 w28 →
 Br (decide ((x27 : Int) ≤ x12))
 (∃ I30 : Nat → Int → World → Prop,
 (∃ n31, ([.int .i64 x7, .int .i64 x8, .int .i64 x9] : List Value) = [.int .i64 x7, .int .i64 x8, .int .i64 x9] ∧ ([.int .i64 x10, .int .i64 x11, .int .i64 x12] : List Value) = [.int .i64 x10, .int .i64 x11, .int .i64 x12] ∧ I30 n31 (x7) w28) ∧
 ∀ (n31 : Nat) (us32 : Nat → Value) (x33 : Int) (w34 : World), I30 n31 x33 w34 →
 Br (decide ((x33 : Int) ≤ x10))
 (callV Tryz.prog a0 [.agg #[.int .i64 x33, .int .i64 x21, .int .i64 x27]] w34 (fun e w36 => ∃ (b37 : Bool), e = .returned (.bool b37) ∧ w36.heap[w6.heap.size]? = w34.heap[w6.heap.size]? ∧ w36.heap[w14.heap.size]? = w34.heap[w14.heap.size]? ∧
 Br (!b37)
 (R (.returned (.tuple #[])) w36)
 (∃ n35, n35 < n31 ∧ ([.int .i64 x7, .int .i64 x8, .int .i64 x9] : List Value) = [.int .i64 x7, .int .i64 x8, .int .i64 x9] ∧ ([.int .i64 x10, .int .i64 x11, .int .i64 x12] : List Value) = [.int .i64 x10, .int .i64 x11, .int .i64 x12] ∧ I30 n35 ((IntKind.wrap .i64 (x33 + 1))) w36)))
 (∃ n29, n29 < n25 ∧ ([.int .i64 x7, .int .i64 x8, .int .i64 x9] : List Value) = [.int .i64 x7, .int .i64 x8, .int .i64 x9] ∧ ([.int .i64 x10, .int .i64 x11, .int .i64 x12] : List Value) = [.int .i64 x10, .int .i64 x11, .int .i64 x12] ∧ I24 n29 ((IntKind.wrap .i64 (x27 + 1))) w34))
 (∃ n23, n23 < n19 ∧ ([.int .i64 x7, .int .i64 x8, .int .i64 x9] : List Value) = [.int .i64 x7, .int .i64 x8, .int .i64 x9] ∧ ([.int .i64 x10, .int .i64 x11, .int .i64 x12] : List Value) = [.int .i64 x10, .int .i64 x11, .int .i64 x12] ∧ I18 n23 ((IntKind.wrap .i64 (x21 + 1))) w28))
 (R (.returned (.tuple #[])) w22))
 (R (.returned (.tuple #[])) w22))
theorem probe_each_1.vc {a0 c0 w} {R : Ending → World → Prop} (h : probe_each_1.pre a0 c0 w R) : Calls Tryz.prog n_probe_each_1 #[a0, .pointer (some c0)] w R :=
 calls_of_eq (an := ⟨[(8, ⟨[(8, .int .i64)], [], []⟩), (5, ⟨[(7, .int .i64)], [], []⟩), (2, ⟨[(6, .int .i64)], [], []⟩)], [], []⟩) (args := [a0, .pointer (some c0)]) Tryz.noNG Tryz.mixed Tryz.func265 h (by kernel_rfl)
def cell_Span.pre (a0_0 : Int) (a0_1 : Int) (a0_2 : Int) (a0_3 : Int) (a0_4 : Int) (a0_5 : Int) (w : World) (R : Ending → World → Prop) : Prop :=
 ∀ w0 : World, w0 = w.alloc (.cells #[.int .i64 a0_0, .int .i64 a0_1, .int .i64 a0_2, .int .i64 a0_3, .int .i64 a0_4, .int .i64 a0_5] 107) →
 ∀ w1 : World, w1 = w0.alloc (.cells #[.int .i64 0, .int .i64 0, .int .i64 0] 41) →
 ∀ w2 : World, w2 = w1.alloc (.cells #[.int .i64 0, .int .i64 0, .int .i64 0] 41) →
 Calls Tryz.prog n_cell_Of #[.agg #[.int .i64 a0_0, .int .i64 a0_1, .int .i64 a0_2]] w2 (fun e w3 => ∃ (x4 : Int) (x5 : Int) (x6 : Int), e = .returned (.agg #[.int .i64 x4, .int .i64 x5, .int .i64 x6]) ∧ w3.heap[w.heap.size]? = w2.heap[w.heap.size]? ∧ w3.heap[w0.heap.size]? = w2.heap[w0.heap.size]? ∧ w3.heap[w1.heap.size]? = w2.heap[w1.heap.size]? ∧
 ∀ w7 : World, w7 = w3.alloc (.cells #[.int .i64 0, .int .i64 0, .int .i64 0] 41) →
 ∀ w8 : World, w8 = w7.setRow w3.heap.size #[.int .i64 x4, .int .i64 x5, .int .i64 x6] →
 Calls Tryz.prog n_vec_Add #[.agg #[.int .i64 a0_3, .int .i64 a0_4, .int .i64 a0_5], .agg #[.int .i64 (-1), .int .i64 (-1), .int .i64 (-1)]] w8 (fun e w9 => ∃ (x10 : Int) (x11 : Int) (x12 : Int), e = .returned (.agg #[.int .i64 x10, .int .i64 x11, .int .i64 x12]) ∧ w9.heap[w.heap.size]? = w8.heap[w.heap.size]? ∧ w9.heap[w0.heap.size]? = w8.heap[w0.heap.size]? ∧ w9.heap[w1.heap.size]? = w8.heap[w1.heap.size]? ∧ w9.heap[w3.heap.size]? = w8.heap[w3.heap.size]? ∧
 Calls Tryz.prog n_cell_Of #[.agg #[.int .i64 x10, .int .i64 x11, .int .i64 x12]] w9 (fun e w13 => ∃ (x14 : Int) (x15 : Int) (x16 : Int), e = .returned (.agg #[.int .i64 x14, .int .i64 x15, .int .i64 x16]) ∧ w13.heap[w.heap.size]? = w9.heap[w.heap.size]? ∧ w13.heap[w0.heap.size]? = w9.heap[w0.heap.size]? ∧ w13.heap[w1.heap.size]? = w9.heap[w1.heap.size]? ∧ w13.heap[w3.heap.size]? = w9.heap[w3.heap.size]? ∧
 ∀ w17 : World, w17 = w13.alloc (.cells #[.int .i64 0, .int .i64 0, .int .i64 0] 41) →
 ∀ w18 : World, w18 = w17.setRow w13.heap.size #[.int .i64 x14, .int .i64 x15, .int .i64 x16] →
 ∃ I19 : Nat → Int → World → Prop,
 (∃ n20, ([.int .i64 a0_0, .int .i64 a0_1, .int .i64 a0_2, .int .i64 a0_3, .int .i64 a0_4, .int .i64 a0_5] : List Value) = [.int .i64 a0_0, .int .i64 a0_1, .int .i64 a0_2, .int .i64 a0_3, .int .i64 a0_4, .int .i64 a0_5] ∧ ([.int .i64 0, .int .i64 0, .int .i64 0] : List Value) = [.int .i64 0, .int .i64 0, .int .i64 0] ∧ ([.int .i64 0, .int .i64 0, .int .i64 0] : List Value) = [.int .i64 0, .int .i64 0, .int .i64 0] ∧ ([.int .i64 x4, .int .i64 x5, .int .i64 x6] : List Value) = [.int .i64 x4, .int .i64 x5, .int .i64 x6] ∧ ([.int .i64 x14, .int .i64 x15, .int .i64 x16] : List Value) = [.int .i64 x14, .int .i64 x15, .int .i64 x16] ∧ I19 n20 (0) w18) ∧
 ∀ (n20 : Nat) (us21 : Nat → Value) (x22 : Int) (w23 : World), I19 n20 x22 w23 →
 Br (decide ((x22 : Int) < 3))
 (Calls Tryz.prog n_vec_Axis #[.agg #[.int .i64 a0_0, .int .i64 a0_1, .int .i64 a0_2], .int .i64 x22] w23.drew (fun e w25 => ∃ (x26 : Int), e = .returned (.int .i64 x26) ∧ w25.heap[w.heap.size]? = w23.drew.heap[w.heap.size]? ∧ w25.heap[w0.heap.size]? = w23.drew.heap[w0.heap.size]? ∧ w25.heap[w1.heap.size]? = w23.drew.heap[w1.heap.size]? ∧ w25.heap[w3.heap.size]? = w23.drew.heap[w3.heap.size]? ∧ w25.heap[w13.heap.size]? = w23.drew.heap[w13.heap.size]? ∧
 LoadL w25 (some ⟨w.heap.size, 3, none⟩) 0 [.int .i64 a0_3, .int .i64 a0_4, .int .i64 a0_5] ∧ Calls Tryz.prog n_vec_Axis #[.agg #[.int .i64 a0_3, .int .i64 a0_4, .int .i64 a0_5], .int .i64 x22] w25 (fun e w27 => ∃ (x28 : Int), e = .returned (.int .i64 x28) ∧ w27.heap[w.heap.size]? = w25.heap[w.heap.size]? ∧ w27.heap[w0.heap.size]? = w25.heap[w0.heap.size]? ∧ w27.heap[w1.heap.size]? = w25.heap[w1.heap.size]? ∧ w27.heap[w3.heap.size]? = w25.heap[w3.heap.size]? ∧ w27.heap[w13.heap.size]? = w25.heap[w13.heap.size]? ∧
 Br ((x26 : Int) == x28)
 (Calls Tryz.prog n_fixed_Frac #[.int .i64 x26] w27 (fun e w29 => ∃ (x30 : Int), e = .returned (.int .i64 x30) ∧ w29.heap[w.heap.size]? = w27.heap[w.heap.size]? ∧ w29.heap[w0.heap.size]? = w27.heap[w0.heap.size]? ∧ w29.heap[w1.heap.size]? = w27.heap[w1.heap.size]? ∧ w29.heap[w3.heap.size]? = w27.heap[w3.heap.size]? ∧ w29.heap[w13.heap.size]? = w27.heap[w13.heap.size]? ∧
 Br ((x30 : Int) == 0)
 (∀ w31 : World, w31 = w29.setRow w0.heap.size #[.int .i64 0, .int .i64 0, .int .i64 0] →
 ∀ w32 : World, w32 = w31.setRow w1.heap.size #[.int .i64 0, .int .i64 0, .int .i64 0] →
 R (.returned (.tuple #[.agg #[.int .i64 0, .int .i64 0, .int .i64 0], .agg #[.int .i64 0, .int .i64 0, .int .i64 0], .bool false])) w32)
 (∃ n24, n24 < n20 ∧ ([.int .i64 a0_0, .int .i64 a0_1, .int .i64 a0_2, .int .i64 a0_3, .int .i64 a0_4, .int .i64 a0_5] : List Value) = [.int .i64 a0_0, .int .i64 a0_1, .int .i64 a0_2, .int .i64 a0_3, .int .i64 a0_4, .int .i64 a0_5] ∧ ([.int .i64 0, .int .i64 0, .int .i64 0] : List Value) = [.int .i64 0, .int .i64 0, .int .i64 0] ∧ ([.int .i64 0, .int .i64 0, .int .i64 0] : List Value) = [.int .i64 0, .int .i64 0, .int .i64 0] ∧ ([.int .i64 x4, .int .i64 x5, .int .i64 x6] : List Value) = [.int .i64 x4, .int .i64 x5, .int .i64 x6] ∧ ([.int .i64 x14, .int .i64 x15, .int .i64 x16] : List Value) = [.int .i64 x14, .int .i64 x15, .int .i64 x16] ∧ I19 n24 ((IntKind.wrap .i64 (x22 + 1))) w29)))
 (∃ n24, n24 < n20 ∧ ([.int .i64 a0_0, .int .i64 a0_1, .int .i64 a0_2, .int .i64 a0_3, .int .i64 a0_4, .int .i64 a0_5] : List Value) = [.int .i64 a0_0, .int .i64 a0_1, .int .i64 a0_2, .int .i64 a0_3, .int .i64 a0_4, .int .i64 a0_5] ∧ ([.int .i64 0, .int .i64 0, .int .i64 0] : List Value) = [.int .i64 0, .int .i64 0, .int .i64 0] ∧ ([.int .i64 0, .int .i64 0, .int .i64 0] : List Value) = [.int .i64 0, .int .i64 0, .int .i64 0] ∧ ([.int .i64 x4, .int .i64 x5, .int .i64 x6] : List Value) = [.int .i64 x4, .int .i64 x5, .int .i64 x6] ∧ ([.int .i64 x14, .int .i64 x15, .int .i64 x16] : List Value) = [.int .i64 x14, .int .i64 x15, .int .i64 x16] ∧ I19 n24 ((IntKind.wrap .i64 (x22 + 1))) w27))))
 (Calls Tryz.prog n_cell_Span_1 #[.int .i64 a0_0, .int .i64 a0_3, .int .i64 x4, .int .i64 x14] w23.drew (fun e w33 => ∃ (x34 : Int), e = .returned (.int .i64 x34) ∧ w33.heap[w.heap.size]? = w23.drew.heap[w.heap.size]? ∧ w33.heap[w0.heap.size]? = w23.drew.heap[w0.heap.size]? ∧ w33.heap[w1.heap.size]? = w23.drew.heap[w1.heap.size]? ∧ w33.heap[w3.heap.size]? = w23.drew.heap[w3.heap.size]? ∧ w33.heap[w13.heap.size]? = w23.drew.heap[w13.heap.size]? ∧
 LoadL w33 (some ⟨w13.heap.size, 2, none⟩) 0 [.int .i64 x16] ∧ LoadL w33 (some ⟨w3.heap.size, 2, none⟩) 0 [.int .i64 x6] ∧ LoadL w33 (some ⟨w.heap.size, 5, none⟩) 0 [.int .i64 a0_5] ∧ LoadL w33 (some ⟨w.heap.size, 2, none⟩) 0 [.int .i64 a0_2] ∧ LoadL w33 (some ⟨w13.heap.size, 1, none⟩) 0 [.int .i64 x15] ∧ LoadL w33 (some ⟨w3.heap.size, 1, none⟩) 0 [.int .i64 x5] ∧ LoadL w33 (some ⟨w.heap.size, 4, none⟩) 0 [.int .i64 a0_4] ∧ LoadL w33 (some ⟨w.heap.size, 1, none⟩) 0 [.int .i64 a0_1] ∧ Calls Tryz.prog n_cell_Span_1 #[.int .i64 a0_1, .int .i64 a0_4, .int .i64 x5, .int .i64 x15] w33 (fun e w35 => ∃ (x36 : Int), e = .returned (.int .i64 x36) ∧ w35.heap[w.heap.size]? = w33.heap[w.heap.size]? ∧ w35.heap[w0.heap.size]? = w33.heap[w0.heap.size]? ∧ w35.heap[w1.heap.size]? = w33.heap[w1.heap.size]? ∧ w35.heap[w3.heap.size]? = w33.heap[w3.heap.size]? ∧ w35.heap[w13.heap.size]? = w33.heap[w13.heap.size]? ∧
 LoadL w35 (some ⟨w13.heap.size, 2, none⟩) 0 [.int .i64 x16] ∧ LoadL w35 (some ⟨w3.heap.size, 2, none⟩) 0 [.int .i64 x6] ∧ LoadL w35 (some ⟨w.heap.size, 5, none⟩) 0 [.int .i64 a0_5] ∧ LoadL w35 (some ⟨w.heap.size, 2, none⟩) 0 [.int .i64 a0_2] ∧ Calls Tryz.prog n_cell_Span_1 #[.int .i64 a0_2, .int .i64 a0_5, .int .i64 x6, .int .i64 x16] w35 (fun e w37 => ∃ (x38 : Int), e = .returned (.int .i64 x38) ∧ w37.heap[w.heap.size]? = w35.heap[w.heap.size]? ∧ w37.heap[w0.heap.size]? = w35.heap[w0.heap.size]? ∧ w37.heap[w1.heap.size]? = w35.heap[w1.heap.size]? ∧ w37.heap[w3.heap.size]? = w35.heap[w3.heap.size]? ∧ w37.heap[w13.heap.size]? = w35.heap[w13.heap.size]? ∧
 ∀ w39 : World, w39 = w37.setRow w13.heap.size #[.int .i64 x34, .int .i64 x15, .int .i64 x16] →
 ∀ w40 : World, w40 = w39.setRow w13.heap.size #[.int .i64 x34, .int .i64 x36, .int .i64 x16] →
 ∀ w41 : World, w41 = w40.setRow w13.heap.size #[.int .i64 x34, .int .i64 x36, .int .i64 x38] →
 ∀ w42 : World, w42 = w41.drew.setRow w0.heap.size #[.int .i64 x4, .int .i64 x5, .int .i64 x6] →
 LoadL w42 (some ⟨w13.heap.size, 0, none⟩) 0 [.int .i64 x34, .int .i64 x36, .int .i64 x38] ∧ ∀ w43 : World, w43 = w42.setRow w1.heap.size #[.int .i64 x34, .int .i64 x36, .int .i64 x38] →
 R (.returned (.tuple #[.agg #[.int .i64 x4, .int .i64 x5, .int .i64 x6], .agg #[.int .i64 x34, .int .i64 x36, .int .i64 x38], .bool true])) w43)))))))
theorem cell_Span.vc {a0_0 a0_1 a0_2 a0_3 a0_4 a0_5 w} {R : Ending → World → Prop} (h : cell_Span.pre a0_0 a0_1 a0_2 a0_3 a0_4 a0_5 w R) : Calls Tryz.prog n_cell_Span #[.agg #[.int .i64 a0_0, .int .i64 a0_1, .int .i64 a0_2, .int .i64 a0_3, .int .i64 a0_4, .int .i64 a0_5]] w R :=
 calls_of_eq (an := ⟨[(4, ⟨[(19, .int .i64)], [], []⟩)], [], []⟩) (args := [.agg #[.int .i64 a0_0, .int .i64 a0_1, .int .i64 a0_2, .int .i64 a0_3, .int .i64 a0_4, .int .i64 a0_5]]) Tryz.noNG Tryz.mixed Tryz.func266 h (by kernel_rfl)
def cell_Span_1.pre (a0 : Int) (a1 : Int) (a2 : Int) (a3 : Int) (w : World) (R : Ending → World → Prop) : Prop :=
 Br ((a0 : Int) == a1)
 (R (.returned (.int .i64 a2)) w)
 (R (.returned (.int .i64 a3)) w)
theorem cell_Span_1.vc {a0 a1 a2 a3 w} {R : Ending → World → Prop} (h : cell_Span_1.pre a0 a1 a2 a3 w R) : Calls Tryz.prog n_cell_Span_1 #[.int .i64 a0, .int .i64 a1, .int .i64 a2, .int .i64 a3] w R :=
 calls_of_eq (an := ⟨[], [], []⟩) (args := [.int .i64 a0, .int .i64 a1, .int .i64 a2, .int .i64 a3]) Tryz.noNG Tryz.mixed Tryz.func293 h (by kernel_rfl)
def law21_load.pre (a0 : Addr) (w : World) (R : Ending → World → Prop) : Prop :=
 Calls Tryz.prog 19 #[.pointer (some a0)] w (fun e w0 => ∃ (p1 : Option Addr), e = .returned (.pointer p1) ∧
 Br (p1).isNone
 (R (.returned (.bool false)) w0)
 (∃ I2 : Nat → Int → World → Prop,
 (∃ n3, I2 n3 ((-1)) w0) ∧
 ∀ (n3 : Nat) (us4 : Nat → Value) (x5 : Int) (w6 : World), I2 n3 x5 w6 →
 Br (decide ((x5 : Int) < 2))
 (∃ I8 : Nat → Int → World → Prop,
 (∃ n9, I8 n9 ((-1)) w6) ∧
 ∀ (n9 : Nat) (us10 : Nat → Value) (x11 : Int) (w12 : World), I8 n9 x11 w12 →
 Br (decide ((x11 : Int) < 2))
 (Calls Tryz.prog 20 #[.pointer p1, .agg #[.int .i64 x5, .int .i64 x11]] w12 (fun e w14 => ∃ (x15 : Int), e = .returned (.int .i64 x15) ∧
 Br ((x15 : Int) != 0)
 (R (.returned (.bool false)) w14)
 (∃ n13, n13 < n9 ∧ I8 n13 ((IntKind.wrap .i64 (x11 + 1))) w14)))
 (∃ n7, n7 < n3 ∧ I2 n7 ((IntKind.wrap .i64 (x5 + 1))) w12))
 (R (.returned (.bool true)) w6)))
theorem law21_load.vc {a0 w} {R : Ending → World → Prop} (h : law21_load.pre a0 w R) : Calls Tryz.prog n_law21_load #[.pointer (some a0)] w R :=
 calls_of_eq (an := ⟨[(8, ⟨[(5, .int .i64)], [], []⟩), (5, ⟨[(4, .int .i64)], [], []⟩)], [], []⟩) (args := [.pointer (some a0)]) Tryz.noNG Tryz.mixed Tryz.func42 h (by kernel_rfl)
def law21_begin.pre (a0 : Int) (a1 : Int) (a2 : Int) (w : World) (R : Ending → World → Prop) : Prop :=
 Calls Tryz.prog n_engine_New #[.agg #[.int .i64 a0, .int .i64 a2, .int .i64 1000000, .int .i64 a1]] w (fun e w0 => ∃ (p1 : Option Addr), e = .returned (.pointer p1) ∧
 Calls Tryz.prog 39 #[.int .i64 a0, .int .i64 a2, .int .i64 1000000] w0 (fun e w2 => ∃ (p3 : Option Addr), e = .returned (.pointer p3) ∧
 Br (p1).isNone
 (R (.returned (.tuple #[.pointer none, .pointer none])) w2)
 (Br (p3).isNone
 (R (.returned (.tuple #[.pointer none, .pointer none])) w2)
 (Calls Tryz.prog 40 #[.pointer p3, .int .i64 a1] w2 (fun e w4 => ∃ (p5 : Option Addr), e = .returned (.pointer p5) ∧
 Br (p5).isNone
 (R (.returned (.tuple #[.pointer none, .pointer none])) w4)
 (AndL (nnC p1) (AndL (nnC p1) (∃ (p6 : Option Addr), ld w4 (padd p1 0) = some (.pointer p6) ∧
 Calls Tryz.prog 18 #[.pointer p6] w4 (fun e w7 => ∃ (p8 : Option Addr), e = .returned (.pointer p8) ∧
 Br (p8).isNone
 (R (.returned (.tuple #[.pointer none, .pointer none])) w7)
 (Calls Tryz.prog n_engine_Engine_Sim #[.pointer p1] w7 (fun e w9 => ∃ (p10 : Option Addr), e = .returned (.pointer p10) ∧
 Br (p10).isNone
 (R (.returned (.tuple #[.pointer none, .pointer none])) w9)
 (Calls Tryz.prog 27 #[.pointer p3] w9 (fun e w11 => ∃ (v12 : Value), e = .returned (v12) ∧
 AndL (fnC v12) (Br (isNilF v12)
 (R (.returned (.tuple #[.pointer none, .pointer none])) w11)
 (AndL (nnC p1) (AndL (nnC p1) (∃ (p13 : Option Addr), ld w11 (padd p1 0) = some (.pointer p13) ∧
 Calls Tryz.prog 18 #[.pointer p13] w11 (fun e w14 => ∃ (p15 : Option Addr), e = .returned (.pointer p15) ∧
 Calls Tryz.prog 27 #[.pointer p15] w14 (fun e w16 => ∃ (v17 : Value), e = .returned (v17) ∧
 AndL (fnC v17) (Br (isNilF v17)
 (R (.returned (.tuple #[.pointer none, .pointer none])) w16)
 (Calls Tryz.prog n_law21_load #[.pointer p3] w16 (fun e w18 => ∃ (b19 : Bool), e = .returned (.bool b19) ∧
 Br (!b19)
 (R (.returned (.tuple #[.pointer none, .pointer none])) w18)
 (AndL (nnC p1) (AndL (nnC p1) (∃ (p20 : Option Addr), ld w18 (padd p1 0) = some (.pointer p20) ∧
 Calls Tryz.prog 18 #[.pointer p20] w18 (fun e w21 => ∃ (p22 : Option Addr), e = .returned (.pointer p22) ∧
 Calls Tryz.prog n_law21_load #[.pointer p22] w21 (fun e w23 => ∃ (b24 : Bool), e = .returned (.bool b24) ∧
 Br (!b24)
 (R (.returned (.tuple #[.pointer none, .pointer none])) w23)
 ((((0 : Int) ≤ 16 ∧ (16 : Int) ≤ 16 ∧ (16 : Int) ≤ 140737488355328 ∧ (16 : Int) * 104 ≤ 140737488355328) ∧ (∀ w25 : World, w25 = w23.drew.alloc (.cells (zeroRows [.bool false, .int .i64 0, .int .i64 0, .int .i64 0, .int .i64 0, .int .i64 0, .int .i64 0, .int .i64 0, .int .i64 0, .bool false, .int .i64 0, .int .i64 0, .bool false] (16 : Int).toNat).toArray 117) →
 ((∀ w26 : World, w26 = w25.alloc (.cells #[.pointer p3, .pointer p5, .slice (some ⟨w23.drew.heap.size, 0, none⟩) (16 : Int).toNat (16 : Int).toNat] 101) →
 R (.returned (.tuple #[.pointer p1, .pointer (some ⟨w25.heap.size, 0, none⟩)])) w26) ∧ (∀ w27 : World, w27 = w25.alloc (.cells #[.pointer p3, .pointer p5, .slice (some ⟨w23.drew.heap.size, 0, none⟩) (16 : Int).toNat (16 : Int).toNat] 101) →
 R (.returned (.tuple #[.pointer p1, .pointer (some ⟨w25.heap.size, 0, none⟩)])) w27)) ∧ (∀ w28 : World, w28 = w25.alloc (.cells #[.pointer p3, .pointer p5, .slice (some ⟨w23.drew.heap.size, 0, none⟩) (16 : Int).toNat (16 : Int).toNat] 101) →
 R (.returned (.tuple #[.pointer p1, .pointer (some ⟨w25.heap.size, 0, none⟩)])) w28))) ∧ (((0 : Int) ≤ 16 ∧ (16 : Int) ≤ 16 ∧ (16 : Int) ≤ 140737488355328 ∧ (16 : Int) * 104 ≤ 140737488355328) ∧ (∀ w29 : World, w29 = w23.drew.alloc (.cells (zeroRows [.bool false, .int .i64 0, .int .i64 0, .int .i64 0, .int .i64 0, .int .i64 0, .int .i64 0, .int .i64 0, .int .i64 0, .bool false, .int .i64 0, .int .i64 0, .bool false] (16 : Int).toNat).toArray 117) →
 ∀ w30 : World, w30 = w29.alloc (.cells #[.pointer p3, .pointer p5, .slice (some ⟨w23.drew.heap.size, 0, none⟩) (16 : Int).toNat (16 : Int).toNat] 101) →
 R (.returned (.tuple #[.pointer p1, .pointer (some ⟨w29.heap.size, 0, none⟩)])) w30))))))))))))))))))))))))))))))
theorem law21_begin.vc {a0 a1 a2 w} {R : Ending → World → Prop} (h : law21_begin.pre a0 a1 a2 w R) : Calls Tryz.prog n_law21_begin #[.int .i64 a0, .int .i64 a1, .int .i64 a2] w R :=
 calls_of_eq (an := ⟨[], [], []⟩) (args := [.int .i64 a0, .int .i64 a1, .int .i64 a2]) Tryz.noNG Tryz.mixed Tryz.func9 h (by kernel_rfl)
def law21_lives.pre  (w : World) (R : Ending → World → Prop) : Prop :=
 Calls Tryz.prog n_engine_New #[.agg #[.int .i64 0, .int .i64 1, .int .i64 0, .int .i64 0]] w (fun e w0 => ∃ (p1 : Option Addr), e = .returned (.pointer p1) ∧
 Br (p1).isNone
 (R (.returned (.bool false)) w0)
 (Calls Tryz.prog n_engine_Engine_Spawn #[.pointer p1, .agg #[.int .i64 0, .int .i64 0, .int .i64 0], .int .i64 100, .int .i64 100] w0 (fun e w2 => ∃ (x3 : Int) (x4 : Int), e = .returned (.tuple #[.int .i64 x3, .int .i64 x4]) ∧
 Br ((x3 : Int) == (-1))
 (R (.returned (.bool ((x4 : Int) == 11))) w2)
 (R (.returned (.bool false)) w2))))
theorem law21_lives.vc {w} {R : Ending → World → Prop} (h : law21_lives.pre  w R) : Calls Tryz.prog n_law21_lives #[] w R :=
 calls_of_eq (an := ⟨[], [], []⟩) (args := []) Tryz.noNG Tryz.mixed Tryz.func14 h (by kernel_rfl)
def law21_EngineSpawns.pre (a0 : Int) (a1 : Int) (w : World) (R : Ending → World → Prop) : Prop :=
 Calls Tryz.prog n_law21_begin #[.int .i64 1, .int .i64 1, .int .i64 9] w (fun e w0 => ∃ (p1 : Option Addr) (p2 : Option Addr), e = .returned (.tuple #[.pointer p1, .pointer p2]) ∧
 Br (p1).isNone
 (R (.returned (.bool false)) w0)
 (Calls Tryz.prog 10 #[.int .i64 a0, .int .i64 21] w0 (fun e w3 => ∃ (x4 : Int), e = .returned (.int .i64 x4) ∧
 ∃ I5 : Nat → Int → World → Prop,
 (∃ n6, I5 n6 (0) w3) ∧
 ∀ (n6 : Nat) (us7 : Nat → Value) (x8 : Int) (w9 : World), I5 n6 x8 w9 →
 Br (decide ((x8 : Int) < x4))
 (∀ w11 : World, w11 = w9.alloc (.cells #[.int .i64 0, .int .i64 0, .int .i64 0] 28) →
 ∀ w12 : World, w12 = w11.setRow w9.heap.size #[.int .i64 (IntKind.wrap .i64 (32768 + (IntKind.wrap .i64 (65536 * (Int.tmod x8 10))))), .int .i64 1310720, .int .i64 (IntKind.wrap .i64 (32768 + (IntKind.wrap .i64 (65536 * (IntKind.wrap .i64 (Int.tdiv x8 10))))))] →
 Calls Tryz.prog n_engine_Engine_Spawn #[.pointer p1, .agg #[.int .i64 (IntKind.wrap .i64 (32768 + (IntKind.wrap .i64 (65536 * (Int.tmod x8 10))))), .int .i64 1310720, .int .i64 (IntKind.wrap .i64 (32768 + (IntKind.wrap .i64 (65536 * (IntKind.wrap .i64 (Int.tdiv x8 10))))))], .int .i64 40000, .int .i64 100000] w12 (fun e w13 => ∃ (x14 : Int) (x15 : Int), e = .returned (.tuple #[.int .i64 x14, .int .i64 x15]) ∧ w13.heap[w9.heap.size]? = w12.heap[w9.heap.size]? ∧
 Br (decide ((x8 : Int) < 16))
 (Br ((x14 : Int) != x8)
 (R (.returned (.bool false)) w13)
 (Br ((x15 : Int) != 0)
 (R (.returned (.bool false)) w13)
 (Br (decide ((x8 : Int) ≥ 16))
 (Br ((x14 : Int) != (-1))
 (R (.returned (.bool false)) w13)
 (Br ((x15 : Int) != 8)
 (R (.returned (.bool false)) w13)
 (∃ n10, n10 < n6 ∧ I5 n10 ((IntKind.wrap .i64 (x8 + 1))) w13)))
 (∃ n10, n10 < n6 ∧ I5 n10 ((IntKind.wrap .i64 (x8 + 1))) w13))))
 (Br (decide ((x8 : Int) ≥ 16))
 (Br ((x14 : Int) != (-1))
 (R (.returned (.bool false)) w13)
 (Br ((x15 : Int) != 8)
 (R (.returned (.bool false)) w13)
 (∃ n10, n10 < n6 ∧ I5 n10 ((IntKind.wrap .i64 (x8 + 1))) w13)))
 (∃ n10, n10 < n6 ∧ I5 n10 ((IntKind.wrap .i64 (x8 + 1))) w13))))
 (Calls Tryz.prog n_engine_Engine_Live #[.pointer p1] w9 (fun e w16 => ∃ (s17 : Sl), e = .returned (.slice s17.a s17.n s17.c) ∧
 Br ((((s17.n : Nat) : Int) : Int) != (if 16 < x4 then 16 else x4))
 (R (.returned (.bool false)) w16)
 (Br ((x4 : Int) == 0)
 (Calls Tryz.prog n_engine_Engine_Kill #[.pointer p1, .int .i64 0] w16 (fun e w18 => ∃ (x19 : Int), e = .returned (.int .i64 x19) ∧
 Br ((x19 : Int) == 6)
 (Calls Tryz.prog n_law21_lives #[] w18 (fun e w20 => ∃ (b21 : Bool), e = .returned (.bool b21) ∧
 R (.returned (.bool b21)) w20))
 (R (.returned (.bool false)) w18)))
 (Calls Tryz.prog 10 #[.int .i64 a1, .int .i64 (if 16 < x4 then 16 else x4)] w16 (fun e w22 => ∃ (x23 : Int), e = .returned (.int .i64 x23) ∧
 Calls Tryz.prog n_engine_Engine_Kill #[.pointer p1, .int .i64 x23] w22 (fun e w24 => ∃ (x25 : Int), e = .returned (.int .i64 x25) ∧
 Br ((x25 : Int) != 0)
 (R (.returned (.bool false)) w24)
 (Calls Tryz.prog n_engine_Engine_Spawn #[.pointer p1, .agg #[.int .i64 32768, .int .i64 1638400, .int .i64 32768], .int .i64 40000, .int .i64 100000] w24 (fun e w26 => ∃ (x27 : Int) (x28 : Int), e = .returned (.tuple #[.int .i64 x27, .int .i64 x28]) ∧
 Br ((x27 : Int) == x23)
 (Br ((x28 : Int) == 0)
 (Calls Tryz.prog n_engine_Engine_Live #[.pointer p1] w26 (fun e w29 => ∃ (s30 : Sl), e = .returned (.slice s30.a s30.n s30.c) ∧
 Br ((((s30.n : Nat) : Int) : Int) == (if 16 < x4 then 16 else x4))
 (Calls Tryz.prog n_law21_lives #[] w29 (fun e w31 => ∃ (b32 : Bool), e = .returned (.bool b32) ∧
 R (.returned (.bool b32)) w31))
 (R (.returned (.bool false)) w29)))
 (R (.returned (.bool false)) w26))
 (R (.returned (.bool false)) w26))))))))))))
theorem law21_EngineSpawns.vc {a0 a1 w} {R : Ending → World → Prop} (h : law21_EngineSpawns.pre a0 a1 w R) : Calls Tryz.prog n_law21_EngineSpawns #[.int .i64 a0, .int .i64 a1] w R :=
 calls_of_eq (an := ⟨[(6, ⟨[(7, .int .i64)], [], []⟩)], [], []⟩) (args := [.int .i64 a0, .int .i64 a1]) Tryz.noNG Tryz.mixed Tryz.func3 h (by kernel_rfl)
end Go.Proofs.YtkkkfkopcfdmaaaGreatDoor
