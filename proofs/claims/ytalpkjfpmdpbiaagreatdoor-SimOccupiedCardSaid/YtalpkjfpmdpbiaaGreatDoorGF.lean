import Derived.Test.YtalpkjfpmdpbiaaGreatDoorGQ
set_option linter.all false
namespace Go.Proofs.YtalpkjfpmdpbiaaGreatDoor
open Go Go.Vc Go.RowKit Go.Proofs
set_option maxRecDepth 100000
set_option maxHeartbeats 8000000
set_option linter.unusedVariables false
abbrev n_cell_Cut : FuncId := 142
abbrev n_cell_cut : FuncId := 143
abbrev n_cell_Near : FuncId := 93
abbrev n_cell_Near_1 : FuncId := 141
abbrev n_flow_Delay : FuncId := 89
abbrev n_flow_Next : FuncId := 92
abbrev n_flow_Wakes : FuncId := 87
abbrev n_flow_sand : FuncId := 138
abbrev n_flow_water : FuncId := 139
abbrev n_sim_New : FuncId := 40
abbrev n_sim_New_1 : FuncId := 83
abbrev n_sim_Sim_World : FuncId := 10
abbrev n_sim_Sim_Waiting : FuncId := 23
abbrev n_sim_Sim_Occupy : FuncId := 17
abbrev n_sim_Sim_Drops : FuncId := 20
abbrev n_sim_Sim_Edit : FuncId := 14
abbrev n_sim_Sim_wake : FuncId := 45
abbrev n_sim_Sim_change : FuncId := 95
abbrev n_sim_Sim_update : FuncId := 47
abbrev n_sim_Sim_Tick : FuncId := 15
abbrev n_sim_Sim_Run : FuncId := 16
def cell_Cut.pre (a0_0 : Int) (a0_1 : Int) (a0_2 : Int) (w : World) (R : Ending → World → Prop) : Prop :=
 ∀ w0 : World, w0 = w.alloc (.cells #[.int .i64 a0_0, .int .i64 a0_1, .int .i64 a0_2] 23) →
 ∀ w1 : World, w1 = w0.alloc (.cells #[.int .i64 0, .int .i64 0, .int .i64 0] 23) →
 Calls Tryz.prog n_cell_cut #[.int .i64 a0_0] w1.drew (fun e w2 => ∃ (x3 : Int), e = .returned (.int .i64 x3) ∧ w2.heap[w.heap.size]? = w1.drew.heap[w.heap.size]? ∧ w2.heap[w0.heap.size]? = w1.drew.heap[w0.heap.size]? ∧
 LoadL w2 (some ⟨w.heap.size, 2, none⟩) 0 [.int .i64 a0_2] ∧ LoadL w2 (some ⟨w.heap.size, 1, none⟩) 0 [.int .i64 a0_1] ∧ Calls Tryz.prog n_cell_cut #[.int .i64 a0_1] w2 (fun e w4 => ∃ (x5 : Int), e = .returned (.int .i64 x5) ∧ w4.heap[w.heap.size]? = w2.heap[w.heap.size]? ∧ w4.heap[w0.heap.size]? = w2.heap[w0.heap.size]? ∧
 LoadL w4 (some ⟨w.heap.size, 2, none⟩) 0 [.int .i64 a0_2] ∧ Calls Tryz.prog n_cell_cut #[.int .i64 a0_2] w4 (fun e w6 => ∃ (x7 : Int), e = .returned (.int .i64 x7) ∧ w6.heap[w.heap.size]? = w4.heap[w.heap.size]? ∧ w6.heap[w0.heap.size]? = w4.heap[w0.heap.size]? ∧
 ∀ w8 : World, w8 = w6.setRow w0.heap.size #[.int .i64 x3, .int .i64 x5, .int .i64 x7] →
 R (.returned (.agg #[.int .i64 x3, .int .i64 x5, .int .i64 x7])) w8)))
theorem cell_Cut.vc {a0_0 a0_1 a0_2 w} {R : Ending → World → Prop} (h : cell_Cut.pre a0_0 a0_1 a0_2 w R) : Calls Tryz.prog n_cell_Cut #[.agg #[.int .i64 a0_0, .int .i64 a0_1, .int .i64 a0_2]] w R :=
 calls_of_eq (an := ⟨[], [], []⟩) (args := [.agg #[.int .i64 a0_0, .int .i64 a0_1, .int .i64 a0_2]]) Tryz.noNG Tryz.mixed Tryz.func142 h (by kernel_rfl)
def cell_cut.pre (a0 : Int) (w : World) (R : Ending → World → Prop) : Prop :=
 R (.returned (.int .i64 (if 2147483648 < (if (-2147483648) > a0 then (-2147483648) else a0) then 2147483648 else (if (-2147483648) > a0 then (-2147483648) else a0)))) w
theorem cell_cut.vc {a0 w} {R : Ending → World → Prop} (h : cell_cut.pre a0 w R) : Calls Tryz.prog n_cell_cut #[.int .i64 a0] w R :=
 calls_of_eq (an := ⟨[], [], []⟩) (args := [.int .i64 a0]) Tryz.noNG Tryz.mixed Tryz.func143 h (by kernel_rfl)
def cell_Near.pre (a0_0 : Int) (a0_1 : Int) (a0_2 : Int) (w : World) (R : Ending → World → Prop) : Prop :=
 ∀ w0 : World, w0 = w.alloc (.cells #[.int .i64 a0_0, .int .i64 a0_1, .int .i64 a0_2] 23) →
 ∀ w1 : World, w1 = w0.alloc (.cells #[.int .i64 0, .int .i64 0, .int .i64 0, .int .i64 0, .int .i64 0, .int .i64 0, .int .i64 0, .int .i64 0, .int .i64 0, .int .i64 0, .int .i64 0, .int .i64 0, .int .i64 0, .int .i64 0, .int .i64 0, .int .i64 0, .int .i64 0, .int .i64 0] 161) →
 Calls Tryz.prog n_cell_Near_1 #[.int .i64 (-1), .int .i64 0, .int .i64 0, .pointer (some ⟨w.heap.size, 0, none⟩)] w1 (fun e w2 => ∃ (x3 : Int) (x4 : Int) (x5 : Int), e = .returned (.agg #[.int .i64 x3, .int .i64 x4, .int .i64 x5]) ∧
 Calls Tryz.prog n_cell_Near_1 #[.int .i64 1, .int .i64 0, .int .i64 0, .pointer (some ⟨w.heap.size, 0, none⟩)] w2 (fun e w6 => ∃ (x7 : Int) (x8 : Int) (x9 : Int), e = .returned (.agg #[.int .i64 x7, .int .i64 x8, .int .i64 x9]) ∧
 Calls Tryz.prog n_cell_Near_1 #[.int .i64 0, .int .i64 (-1), .int .i64 0, .pointer (some ⟨w.heap.size, 0, none⟩)] w6 (fun e w10 => ∃ (x11 : Int) (x12 : Int) (x13 : Int), e = .returned (.agg #[.int .i64 x11, .int .i64 x12, .int .i64 x13]) ∧
 Calls Tryz.prog n_cell_Near_1 #[.int .i64 0, .int .i64 1, .int .i64 0, .pointer (some ⟨w.heap.size, 0, none⟩)] w10 (fun e w14 => ∃ (x15 : Int) (x16 : Int) (x17 : Int), e = .returned (.agg #[.int .i64 x15, .int .i64 x16, .int .i64 x17]) ∧
 Calls Tryz.prog n_cell_Near_1 #[.int .i64 0, .int .i64 0, .int .i64 (-1), .pointer (some ⟨w.heap.size, 0, none⟩)] w14 (fun e w18 => ∃ (x19 : Int) (x20 : Int) (x21 : Int), e = .returned (.agg #[.int .i64 x19, .int .i64 x20, .int .i64 x21]) ∧
 Calls Tryz.prog n_cell_Near_1 #[.int .i64 0, .int .i64 0, .int .i64 1, .pointer (some ⟨w.heap.size, 0, none⟩)] w18 (fun e w22 => ∃ (x23 : Int) (x24 : Int) (x25 : Int), e = .returned (.agg #[.int .i64 x23, .int .i64 x24, .int .i64 x25]) ∧
 (true = true ∧ Wr w22 (some ⟨w0.heap.size, 0, none⟩) 18) ∧ (∀ w26 : World, w26 = setP w22 (some ⟨w0.heap.size, 0, none⟩) [.int .i64 x3, .int .i64 x4, .int .i64 x5, .int .i64 x7, .int .i64 x8, .int .i64 x9, .int .i64 x11, .int .i64 x12, .int .i64 x13, .int .i64 x15, .int .i64 x16, .int .i64 x17, .int .i64 x19, .int .i64 x20, .int .i64 x21, .int .i64 x23, .int .i64 x24, .int .i64 x25] →
 ∃ (x27 : Int) (x28 : Int) (x29 : Int) (x30 : Int) (x31 : Int) (x32 : Int) (x33 : Int) (x34 : Int) (x35 : Int) (x36 : Int) (x37 : Int) (x38 : Int) (x39 : Int) (x40 : Int) (x41 : Int) (x42 : Int) (x43 : Int) (x44 : Int), LoadL w26 (some ⟨w0.heap.size, 0, none⟩) 0 [.int .i64 x27, .int .i64 x28, .int .i64 x29, .int .i64 x30, .int .i64 x31, .int .i64 x32, .int .i64 x33, .int .i64 x34, .int .i64 x35, .int .i64 x36, .int .i64 x37, .int .i64 x38, .int .i64 x39, .int .i64 x40, .int .i64 x41, .int .i64 x42, .int .i64 x43, .int .i64 x44] ∧
 R (.returned (.agg #[.int .i64 x27, .int .i64 x28, .int .i64 x29, .int .i64 x30, .int .i64 x31, .int .i64 x32, .int .i64 x33, .int .i64 x34, .int .i64 x35, .int .i64 x36, .int .i64 x37, .int .i64 x38, .int .i64 x39, .int .i64 x40, .int .i64 x41, .int .i64 x42, .int .i64 x43, .int .i64 x44])) w26)))))))
theorem cell_Near.vc {a0_0 a0_1 a0_2 w} {R : Ending → World → Prop} (h : cell_Near.pre a0_0 a0_1 a0_2 w R) : Calls Tryz.prog n_cell_Near #[.agg #[.int .i64 a0_0, .int .i64 a0_1, .int .i64 a0_2]] w R :=
 calls_of_eq (an := ⟨[], [], []⟩) (args := [.agg #[.int .i64 a0_0, .int .i64 a0_1, .int .i64 a0_2]]) Tryz.noNG Tryz.mixed Tryz.func93 h (by kernel_rfl)
def cell_Near_1.pre (a0 : Int) (a1 : Int) (a2 : Int) (c0 : Addr) (w : World) (R : Ending → World → Prop) : Prop :=
 ∀ w0 : World, w0 = w.alloc (.cells #[.int .i64 0, .int .i64 0, .int .i64 0] 23) →
 ∃ (x1 : Int), ld w0.drew (padd (some c0) 0) = some (.int .i64 x1) ∧
 ∃ (x2 : Int), ld w0.drew (padd (some c0) 1) = some (.int .i64 x2) ∧
 ∃ (x3 : Int), ld w0.drew (padd (some c0) 2) = some (.int .i64 x3) ∧
 Calls Tryz.prog n_cell_cut #[.int .i64 x1] w0.drew (fun e w4 => ∃ (x5 : Int), e = .returned (.int .i64 x5) ∧ w4.heap[w.heap.size]? = w0.drew.heap[w.heap.size]? ∧
 LoadL w4 (padd (some c0) 2) 0 [.int .i64 x3] ∧ LoadL w4 (padd (some c0) 1) 0 [.int .i64 x2] ∧ Calls Tryz.prog n_cell_cut #[.int .i64 x2] w4 (fun e w6 => ∃ (x7 : Int), e = .returned (.int .i64 x7) ∧ w6.heap[w.heap.size]? = w4.heap[w.heap.size]? ∧
 LoadL w6 (padd (some c0) 2) 0 [.int .i64 x3] ∧ Calls Tryz.prog n_cell_cut #[.int .i64 x3] w6 (fun e w8 => ∃ (x9 : Int), e = .returned (.int .i64 x9) ∧ w8.heap[w.heap.size]? = w6.heap[w.heap.size]? ∧
 Calls Tryz.prog n_cell_Cut #[.agg #[.int .i64 (IntKind.wrap .i64 (x5 + a0)), .int .i64 (IntKind.wrap .i64 (x7 + a1)), .int .i64 (IntKind.wrap .i64 (x9 + a2))]] w8 (fun e w10 => ∃ (x11 : Int) (x12 : Int) (x13 : Int), e = .returned (.agg #[.int .i64 x11, .int .i64 x12, .int .i64 x13]) ∧ w10.heap[w.heap.size]? = w8.heap[w.heap.size]? ∧
 ∀ w14 : World, w14 = w10.setRow w.heap.size #[.int .i64 x11, .int .i64 x12, .int .i64 x13] →
 R (.returned (.agg #[.int .i64 x11, .int .i64 x12, .int .i64 x13])) w14))))
theorem cell_Near_1.vc {a0 a1 a2 c0 w} {R : Ending → World → Prop} (h : cell_Near_1.pre a0 a1 a2 c0 w R) : Calls Tryz.prog n_cell_Near_1 #[.int .i64 a0, .int .i64 a1, .int .i64 a2, .pointer (some c0)] w R :=
 calls_of_eq (an := ⟨[], [], []⟩) (args := [.int .i64 a0, .int .i64 a1, .int .i64 a2, .pointer (some c0)]) Tryz.noNG Tryz.mixed Tryz.func141 h (by kernel_rfl)
def flow_Delay.pre (a0 : Int) (w : World) (R : Ending → World → Prop) : Prop :=
 Calls Tryz.prog 94 #[.int .i64 a0] w (fun e w0 => ∃ (b1 : Bool), e = .returned (.bool b1) ∧
 Br b1
 (R (.returned (.int .i64 2)) w0)
 (Calls Tryz.prog 134 #[.int .i64 a0] w0 (fun e w2 => ∃ (b3 : Bool), e = .returned (.bool b3) ∧
 Br b3
 (R (.returned (.int .i64 5)) w2)
 (R (.returned (.int .i64 0)) w2))))
theorem flow_Delay.vc {a0 w} {R : Ending → World → Prop} (h : flow_Delay.pre a0 w R) : Calls Tryz.prog n_flow_Delay #[.int .i64 a0] w R :=
 calls_of_eq (an := ⟨[], [], []⟩) (args := [.int .i64 a0]) Tryz.noNG Tryz.mixed Tryz.func89 h (by kernel_rfl)
def flow_Next.pre (a0 : Value) (a1_0 : Int) (a1_1 : Int) (a1_2 : Int) (w : World) (R : Ending → World → Prop) : Prop :=
 ∀ w0 : World, w0 = w.alloc (.cells #[.int .i64 a1_0, .int .i64 a1_1, .int .i64 a1_2] 23) →
 callV Tryz.prog a0 [.agg #[.int .i64 a1_0, .int .i64 a1_1, .int .i64 a1_2]] w0 (fun e w1 => ∃ (x2 : Int), e = .returned (.int .i64 x2) ∧ w1.heap[w.heap.size]? = w0.heap[w.heap.size]? ∧
 Calls Tryz.prog 94 #[.int .i64 x2] w1 (fun e w3 => ∃ (b4 : Bool), e = .returned (.bool b4) ∧ w3.heap[w.heap.size]? = w1.heap[w.heap.size]? ∧
 Br b4
 (Calls Tryz.prog n_flow_sand #[a0, .agg #[.int .i64 a1_0, .int .i64 a1_1, .int .i64 a1_2]] w3 (fun e w5 => ∃ (s6 : Sl), e = .returned (.slice s6.a s6.n s6.c) ∧ w5.heap[w.heap.size]? = w3.heap[w.heap.size]? ∧
 R (.returned (.slice s6.a s6.n s6.c)) w5))
 (Calls Tryz.prog 134 #[.int .i64 x2] w3 (fun e w7 => ∃ (b8 : Bool), e = .returned (.bool b8) ∧ w7.heap[w.heap.size]? = w3.heap[w.heap.size]? ∧
 Br b8
 (Calls Tryz.prog 140 #[.int .i64 x2] w7.drew (fun e w9 => ∃ (x10 : Int), e = .returned (.int .i64 x10) ∧ w9.heap[w.heap.size]? = w7.drew.heap[w.heap.size]? ∧
 LoadL w9 (some ⟨w.heap.size, 0, none⟩) 0 [.int .i64 a1_0, .int .i64 a1_1, .int .i64 a1_2] ∧ Calls Tryz.prog n_flow_water #[a0, .agg #[.int .i64 a1_0, .int .i64 a1_1, .int .i64 a1_2], .int .i64 x10] w9 (fun e w11 => ∃ (s12 : Sl), e = .returned (.slice s12.a s12.n s12.c) ∧ w11.heap[w.heap.size]? = w9.heap[w.heap.size]? ∧
 R (.returned (.slice s12.a s12.n s12.c)) w11)))
 (R (.returned (.slice none 0 0)) w7)))))
theorem flow_Next.vc {a0 a1_0 a1_1 a1_2 w} {R : Ending → World → Prop} (h : flow_Next.pre a0 a1_0 a1_1 a1_2 w R) : Calls Tryz.prog n_flow_Next #[a0, .agg #[.int .i64 a1_0, .int .i64 a1_1, .int .i64 a1_2]] w R :=
 calls_of_eq (an := ⟨[], [], []⟩) (args := [a0, .agg #[.int .i64 a1_0, .int .i64 a1_1, .int .i64 a1_2]]) Tryz.noNG Tryz.mixed Tryz.func92 h (by kernel_rfl)
def flow_Wakes.pre (a0 : Value) (a1_0 : Int) (a1_1 : Int) (a1_2 : Int) (w : World) (R : Ending → World → Prop) : Prop :=
 ∀ w0 : World, w0 = w.alloc (.cells #[.int .i64 a1_0, .int .i64 a1_1, .int .i64 a1_2] 23) →
 Calls Tryz.prog n_cell_Near #[.agg #[.int .i64 a1_0, .int .i64 a1_1, .int .i64 a1_2]] w0 (fun e w1 => ∃ (x2 : Int) (x3 : Int) (x4 : Int) (x5 : Int) (x6 : Int) (x7 : Int) (x8 : Int) (x9 : Int) (x10 : Int) (x11 : Int) (x12 : Int) (x13 : Int) (x14 : Int) (x15 : Int) (x16 : Int) (x17 : Int) (x18 : Int) (x19 : Int), e = .returned (.agg #[.int .i64 x2, .int .i64 x3, .int .i64 x4, .int .i64 x5, .int .i64 x6, .int .i64 x7, .int .i64 x8, .int .i64 x9, .int .i64 x10, .int .i64 x11, .int .i64 x12, .int .i64 x13, .int .i64 x14, .int .i64 x15, .int .i64 x16, .int .i64 x17, .int .i64 x18, .int .i64 x19]) ∧ w1.heap[w.heap.size]? = w0.heap[w.heap.size]? ∧
 ∀ w20 : World, w20 = w1.alloc (.cells #[.int .i64 0, .int .i64 0, .int .i64 0, .int .i64 0, .int .i64 0, .int .i64 0, .int .i64 0, .int .i64 0, .int .i64 0, .int .i64 0, .int .i64 0, .int .i64 0, .int .i64 0, .int .i64 0, .int .i64 0, .int .i64 0, .int .i64 0, .int .i64 0] 161) →
 (true = true ∧ Wr w20 (some ⟨w1.heap.size, 0, none⟩) 18) ∧ pblk (some ⟨w1.heap.size, 0, none⟩) ≠ some w.heap.size ∧ (∀ w21 : World, w21 = setP w20 (some ⟨w1.heap.size, 0, none⟩) [.int .i64 x2, .int .i64 x3, .int .i64 x4, .int .i64 x5, .int .i64 x6, .int .i64 x7, .int .i64 x8, .int .i64 x9, .int .i64 x10, .int .i64 x11, .int .i64 x12, .int .i64 x13, .int .i64 x14, .int .i64 x15, .int .i64 x16, .int .i64 x17, .int .i64 x18, .int .i64 x19] →
 ∀ w22 : World, w22 = w21.drew.alloc (.cells #[.int .i64 a1_0, .int .i64 a1_1, .int .i64 a1_2] 23) →
 ∃ l23 : List Value, Rd w22 (slBase (some ⟨w1.heap.size, 0, none⟩) (0) (6) 3) l23 ∧ AppPre 24 3 w22 ⟨(some ⟨w21.drew.heap.size, 0, none⟩), 1, 1⟩ (6 - 0) l23 ∧ ∀ (s24 : Sl) (w25 : World), AppRes 23 3 w22 ⟨(some ⟨w21.drew.heap.size, 0, none⟩), 1, 1⟩ (6 - 0) l23 s24 w25 → w25.heap[w.heap.size]? = w22.heap[w.heap.size]? ∧ w25.heap[w21.drew.heap.size]? = w22.heap[w21.drew.heap.size]? ∧
 ∃ I26 : Nat → Int → Sl → World → Prop,
 (∃ n27, ([.int .i64 a1_0, .int .i64 a1_1, .int .i64 a1_2] : List Value) = [.int .i64 a1_0, .int .i64 a1_1, .int .i64 a1_2] ∧ ([.int .i64 a1_0, .int .i64 a1_1, .int .i64 a1_2] : List Value) = [.int .i64 a1_0, .int .i64 a1_1, .int .i64 a1_2] ∧ I26 n27 (0) ⟨none, 0, 0⟩ w25) ∧
 ∀ (n27 : Nat) (us28 : Nat → Value) (x29 : Int) (s30 : Sl) (w31 : World), I26 n27 x29 s30 w31 →
 Br (decide ((x29 : Int) < ((s24.n : Nat) : Int)))
 (InB s24.a x29 s24.n ∧ ∃ (x33 : Int) (x34 : Int) (x35 : Int), LoadL w31 (padd s24.a ((x29 : Int).toNat * 3)) 0 [.int .i64 x33, .int .i64 x34, .int .i64 x35] ∧
 ∀ w36 : World, w36 = w31.alloc (.cells #[.int .i64 0, .int .i64 0, .int .i64 0] 23) →
 ∀ w37 : World, w37 = w36.setRow w31.heap.size #[.int .i64 x33, .int .i64 x34, .int .i64 x35] →
 callV Tryz.prog a0 [.agg #[.int .i64 x33, .int .i64 x34, .int .i64 x35]] w37 (fun e w38 => ∃ (x39 : Int), e = .returned (.int .i64 x39) ∧ w38.heap[w.heap.size]? = w37.heap[w.heap.size]? ∧ w38.heap[w21.drew.heap.size]? = w37.heap[w21.drew.heap.size]? ∧ w38.heap[w31.heap.size]? = w37.heap[w31.heap.size]? ∧
 Calls Tryz.prog n_flow_Delay #[.int .i64 x39] w38 (fun e w40 => ∃ (x41 : Int), e = .returned (.int .i64 x41) ∧ w40.heap[w.heap.size]? = w38.heap[w.heap.size]? ∧ w40.heap[w21.drew.heap.size]? = w38.heap[w21.drew.heap.size]? ∧ w40.heap[w31.heap.size]? = w38.heap[w31.heap.size]? ∧
 Br (decide ((x41 : Int) > 0))
 (∀ w42 : World, w42 = w40.alloc (.cells #[.int .i64 x33, .int .i64 x34, .int .i64 x35] 23) →
 AppPre 24 3 w42 ⟨s30.a, s30.n, s30.c⟩ 1 [.int .i64 x33, .int .i64 x34, .int .i64 x35] ∧ ∀ (s43 : Sl) (w44 : World), AppRes 23 3 w42 ⟨s30.a, s30.n, s30.c⟩ 1 [.int .i64 x33, .int .i64 x34, .int .i64 x35] s43 w44 → w44.heap[w.heap.size]? = w42.heap[w.heap.size]? ∧ w44.heap[w21.drew.heap.size]? = w42.heap[w21.drew.heap.size]? ∧ w44.heap[w31.heap.size]? = w42.heap[w31.heap.size]? ∧ w44.heap[w40.heap.size]? = w42.heap[w40.heap.size]? ∧
 ∃ n32, n32 < n27 ∧ ([.int .i64 a1_0, .int .i64 a1_1, .int .i64 a1_2] : List Value) = [.int .i64 a1_0, .int .i64 a1_1, .int .i64 a1_2] ∧ ([.int .i64 a1_0, .int .i64 a1_1, .int .i64 a1_2] : List Value) = [.int .i64 a1_0, .int .i64 a1_1, .int .i64 a1_2] ∧ I26 n32 ((IntKind.wrap .i64 (x29 + 1))) ⟨s43.a, s43.n, s43.c⟩ w44)
 (∃ n32, n32 < n27 ∧ ([.int .i64 a1_0, .int .i64 a1_1, .int .i64 a1_2] : List Value) = [.int .i64 a1_0, .int .i64 a1_1, .int .i64 a1_2] ∧ ([.int .i64 a1_0, .int .i64 a1_1, .int .i64 a1_2] : List Value) = [.int .i64 a1_0, .int .i64 a1_1, .int .i64 a1_2] ∧ I26 n32 ((IntKind.wrap .i64 (x29 + 1))) ⟨s30.a, s30.n, s30.c⟩ w40))))
 (R (.returned (.slice s30.a s30.n s30.c)) w31)))
theorem flow_Wakes.vc {a0 a1_0 a1_1 a1_2 w} {R : Ending → World → Prop} (h : flow_Wakes.pre a0 a1_0 a1_1 a1_2 w R) : Calls Tryz.prog n_flow_Wakes #[a0, .agg #[.int .i64 a1_0, .int .i64 a1_1, .int .i64 a1_2]] w R :=
 calls_of_eq (an := ⟨[(4, ⟨[(16, .int .i64), (5, .slice)], [], []⟩)], [], []⟩) (args := [a0, .agg #[.int .i64 a1_0, .int .i64 a1_1, .int .i64 a1_2]]) Tryz.noNG Tryz.mixed Tryz.func87 h (by kernel_rfl)
def flow_sand.pre (a0 : Value) (a1_0 : Int) (a1_1 : Int) (a1_2 : Int) (w : World) (R : Ending → World → Prop) : Prop :=
 ∀ w0 : World, w0 = w.alloc (.cells #[.int .i64 a1_0, .int .i64 a1_1, .int .i64 a1_2] 23) →
 Calls Tryz.prog n_cell_Near #[.agg #[.int .i64 a1_0, .int .i64 a1_1, .int .i64 a1_2]] w0 (fun e w1 => ∃ (x2 : Int) (x3 : Int) (x4 : Int) (x5 : Int) (x6 : Int) (x7 : Int) (x8 : Int) (x9 : Int) (x10 : Int) (x11 : Int) (x12 : Int) (x13 : Int) (x14 : Int) (x15 : Int) (x16 : Int) (x17 : Int) (x18 : Int) (x19 : Int), e = .returned (.agg #[.int .i64 x2, .int .i64 x3, .int .i64 x4, .int .i64 x5, .int .i64 x6, .int .i64 x7, .int .i64 x8, .int .i64 x9, .int .i64 x10, .int .i64 x11, .int .i64 x12, .int .i64 x13, .int .i64 x14, .int .i64 x15, .int .i64 x16, .int .i64 x17, .int .i64 x18, .int .i64 x19]) ∧ w1.heap[w.heap.size]? = w0.heap[w.heap.size]? ∧
 ((0 : Int) ≤ 2 ∧ (2 : Int) < ((6 : Nat) : Int)) ∧ ∃ (x20 : Int) (x21 : Int) (x22 : Int), (([.int .i64 x2, .int .i64 x3, .int .i64 x4, .int .i64 x5, .int .i64 x6, .int .i64 x7, .int .i64 x8, .int .i64 x9, .int .i64 x10, .int .i64 x11, .int .i64 x12, .int .i64 x13, .int .i64 x14, .int .i64 x15, .int .i64 x16, .int .i64 x17, .int .i64 x18, .int .i64 x19] : List Value).drop ((2 : Int).toNat * 3)).take 3 = [.int .i64 x20, .int .i64 x21, .int .i64 x22] ∧
 ∀ w23 : World, w23 = w1.alloc (.cells #[.int .i64 0, .int .i64 0, .int .i64 0] 23) →
 ∀ w24 : World, w24 = w23.setRow w1.heap.size #[.int .i64 x20, .int .i64 x21, .int .i64 x22] →
 callV Tryz.prog a0 [.agg #[.int .i64 x20, .int .i64 x21, .int .i64 x22]] w24 (fun e w25 => ∃ (x26 : Int), e = .returned (.int .i64 x26) ∧ w25.heap[w.heap.size]? = w24.heap[w.heap.size]? ∧ w25.heap[w1.heap.size]? = w24.heap[w1.heap.size]? ∧
 Calls Tryz.prog 185 #[.int .i64 x26] w25 (fun e w27 => ∃ (b28 : Bool), e = .returned (.bool b28) ∧ w27.heap[w.heap.size]? = w25.heap[w.heap.size]? ∧ w27.heap[w1.heap.size]? = w25.heap[w1.heap.size]? ∧
 Br (!b28)
 (R (.returned (.slice none 0 0)) w27)
 (∀ w29 : World, w29 = w27.alloc (.cells #[.int .i64 a1_0, .int .i64 a1_1, .int .i64 a1_2, .int .i64 x26, .int .i64 x20, .int .i64 x21, .int .i64 x22, .int .i64 3] 71) →
 R (.returned (.slice (some ⟨w27.heap.size, 0, none⟩) 2 2)) w29))))
theorem flow_sand.vc {a0 a1_0 a1_1 a1_2 w} {R : Ending → World → Prop} (h : flow_sand.pre a0 a1_0 a1_1 a1_2 w R) : Calls Tryz.prog n_flow_sand #[a0, .agg #[.int .i64 a1_0, .int .i64 a1_1, .int .i64 a1_2]] w R :=
 calls_of_eq (an := ⟨[], [], []⟩) (args := [a0, .agg #[.int .i64 a1_0, .int .i64 a1_1, .int .i64 a1_2]]) Tryz.noNG Tryz.mixed Tryz.func138 h (by kernel_rfl)
def sim_New.pre (a0 : Addr) (a1 : Int) (w : World) (R : Ending → World → Prop) : Prop :=
 Calls Tryz.prog 60 #[.int .i64 4096] w (fun e w0 => ∃ (p1 : Option Addr), e = .returned (.pointer p1) ∧
 ∀ w2 : World, w2 = w0.alloc (.cells #[.pointer p1, .pointer (some a0), .int .i64 (if 64 < (if 1 > a1 then 1 else a1) then 64 else (if 1 > a1 then 1 else a1)), .int .i64 0, .func (.func 83) #[] #[], .slice none 0 0] 98) →
 R (.returned (.pointer (some ⟨w0.heap.size, 0, none⟩))) w2)
theorem sim_New.vc {a0 a1 w} {R : Ending → World → Prop} (h : sim_New.pre a0 a1 w R) : Calls Tryz.prog n_sim_New #[.pointer (some a0), .int .i64 a1] w R :=
 calls_of_eq (an := ⟨[], [], []⟩) (args := [.pointer (some a0), .int .i64 a1]) Tryz.noNG Tryz.mixed Tryz.func40 h (by kernel_rfl)
def sim_Sim_World.pre (a0 : Addr) (w : World) (R : Ending → World → Prop) : Prop :=
 ∃ (p0 : Option Addr), ld w (padd (some a0) 1) = some (.pointer p0) ∧
 R (.returned (.pointer p0)) w
theorem sim_Sim_World.vc {a0 w} {R : Ending → World → Prop} (h : sim_Sim_World.pre a0 w R) : Calls Tryz.prog n_sim_Sim_World #[.pointer (some a0)] w R :=
 calls_of_eq (an := ⟨[], [], []⟩) (args := [.pointer (some a0)]) Tryz.noNG Tryz.mixed Tryz.func10 h (by kernel_rfl)
def sim_Sim_Waiting.pre (a0 : Addr) (w : World) (R : Ending → World → Prop) : Prop :=
 ∃ (p0 : Option Addr), ld w (padd (some a0) 0) = some (.pointer p0) ∧
 Calls Tryz.prog 52 #[.pointer p0] w (fun e w1 => ∃ (s2 : Sl), e = .returned (.slice s2.a s2.n s2.c) ∧
 R (.returned (.slice s2.a s2.n s2.c)) w1)
theorem sim_Sim_Waiting.vc {a0 w} {R : Ending → World → Prop} (h : sim_Sim_Waiting.pre a0 w R) : Calls Tryz.prog n_sim_Sim_Waiting #[.pointer (some a0)] w R :=
 calls_of_eq (an := ⟨[], [], []⟩) (args := [.pointer (some a0)]) Tryz.noNG Tryz.mixed Tryz.func23 h (by kernel_rfl)
def sim_Sim_Occupy.pre (a0 : Addr) (f1 : Fn) (p1 q1 : Array Value) (w : World) (R : Ending → World → Prop) : Prop :=
 ((true = true ∧ Wr w (padd (some a0) 4) 1) ∧ (∀ w0 : World, w0 = setP w (padd (some a0) 4) [.func f1 p1 q1] →
 R (.returned (.tuple #[])) w0))
theorem sim_Sim_Occupy.vc {a0 f1 p1 q1 w} {R : Ending → World → Prop} (h : sim_Sim_Occupy.pre a0 f1 p1 q1 w R) : Calls Tryz.prog n_sim_Sim_Occupy #[.pointer (some a0), .func f1 p1 q1] w R :=
 calls_of_eq (an := ⟨[], [], []⟩) (args := [.pointer (some a0), .func f1 p1 q1]) Tryz.noNG Tryz.mixed Tryz.func17 h (by kernel_rfl)
def sim_Sim_Drops.pre (a0 : Addr) (w : World) (R : Ending → World → Prop) : Prop :=
 ∃ (s0 : Sl), ld w (padd (some a0) 5) = some (.slice s0.a s0.n s0.c) ∧
 (true = true ∧ Wr w (padd (some a0) 5) 1) ∧ (∀ w1 : World, w1 = setP w (padd (some a0) 5) [.slice none 0 0] →
 R (.returned (.slice s0.a s0.n s0.c)) w1)
theorem sim_Sim_Drops.vc {a0 w} {R : Ending → World → Prop} (h : sim_Sim_Drops.pre a0 w R) : Calls Tryz.prog n_sim_Sim_Drops #[.pointer (some a0)] w R :=
 calls_of_eq (an := ⟨[], [], []⟩) (args := [.pointer (some a0)]) Tryz.noNG Tryz.mixed Tryz.func20 h (by kernel_rfl)
def sim_Sim_Edit.pre (a0 : Addr) (a1_0 : Int) (a1_1 : Int) (a1_2 : Int) (a2 : Int) (w : World) (R : Ending → World → Prop) : Prop :=
 ∀ w0 : World, w0 = w.alloc (.cells #[.int .i64 a1_0, .int .i64 a1_1, .int .i64 a1_2] 23) →
 ∃ (p1 : Option Addr), ld w0.drew (padd (some a0) 1) = some (.pointer p1) ∧
 Calls Tryz.prog 27 #[.pointer p1, .agg #[.int .i64 a1_0, .int .i64 a1_1, .int .i64 a1_2], .int .i64 a2] w0.drew (fun e w2 => ∃ (x3 : Int), e = .returned (.int .i64 x3) ∧ w2.heap[w.heap.size]? = w0.drew.heap[w.heap.size]? ∧
 Br ((x3 : Int) == 0)
 (Calls Tryz.prog n_sim_Sim_wake #[.pointer (some a0), .agg #[.int .i64 a1_0, .int .i64 a1_1, .int .i64 a1_2]] w2 (fun e w4 => e = .returned (.tuple #[]) ∧ w4.heap[w.heap.size]? = w2.heap[w.heap.size]? ∧
 R (.returned (.int .i64 x3)) w4))
 (R (.returned (.int .i64 x3)) w2))
theorem sim_Sim_Edit.vc {a0 a1_0 a1_1 a1_2 a2 w} {R : Ending → World → Prop} (h : sim_Sim_Edit.pre a0 a1_0 a1_1 a1_2 a2 w R) : Calls Tryz.prog n_sim_Sim_Edit #[.pointer (some a0), .agg #[.int .i64 a1_0, .int .i64 a1_1, .int .i64 a1_2], .int .i64 a2] w R :=
 calls_of_eq (an := ⟨[], [], []⟩) (args := [.pointer (some a0), .agg #[.int .i64 a1_0, .int .i64 a1_1, .int .i64 a1_2], .int .i64 a2]) Tryz.noNG Tryz.mixed Tryz.func14 h (by kernel_rfl)
def sim_Sim_wake.pre (a0 : Addr) (a1_0 : Int) (a1_1 : Int) (a1_2 : Int) (w : World) (R : Ending → World → Prop) : Prop :=
 ∀ w0 : World, w0 = w.alloc (.cells #[.int .i64 a1_0, .int .i64 a1_1, .int .i64 a1_2] 23) →
 ∃ (p1 : Option Addr), ld w0 (padd (some a0) 1) = some (.pointer p1) ∧
 Calls Tryz.prog 11 #[.pointer p1] w0 (fun e w2 => ∃ (v3 : Value), e = .returned (v3) ∧ w2.heap[w.heap.size]? = w0.heap[w.heap.size]? ∧
 Calls Tryz.prog n_flow_Wakes #[v3, .agg #[.int .i64 a1_0, .int .i64 a1_1, .int .i64 a1_2]] w2 (fun e w4 => ∃ (s5 : Sl), e = .returned (.slice s5.a s5.n s5.c) ∧ w4.heap[w.heap.size]? = w2.heap[w.heap.size]? ∧
 ∃ I6 : Nat → Int → World → Prop,
 (∃ n7, ([.int .i64 a1_0, .int .i64 a1_1, .int .i64 a1_2] : List Value) = [.int .i64 a1_0, .int .i64 a1_1, .int .i64 a1_2] ∧ I6 n7 (0) w4) ∧
 ∀ (n7 : Nat) (us8 : Nat → Value) (x9 : Int) (w10 : World), I6 n7 x9 w10 →
 Br (decide ((x9 : Int) < ((s5.n : Nat) : Int)))
 (InB s5.a x9 s5.n ∧ ∃ (x12 : Int) (x13 : Int) (x14 : Int), LoadL w10 (padd s5.a ((x9 : Int).toNat * 3)) 0 [.int .i64 x12, .int .i64 x13, .int .i64 x14] ∧
 ∀ w15 : World, w15 = w10.alloc (.cells #[.int .i64 0, .int .i64 0, .int .i64 0] 23) →
 ∀ w16 : World, w16 = w15.setRow w10.heap.size #[.int .i64 x12, .int .i64 x13, .int .i64 x14] →
 ∃ (p17 : Option Addr), ld w16.drew (padd (some a0) 0) = some (.pointer p17) ∧
 ∃ (x18 : Int), ld w16.drew (padd (some a0) 3) = some (.int .i64 x18) ∧
 callV Tryz.prog v3 [.agg #[.int .i64 x12, .int .i64 x13, .int .i64 x14]] w16.drew (fun e w19 => ∃ (x20 : Int), e = .returned (.int .i64 x20) ∧ w19.heap[w.heap.size]? = w16.drew.heap[w.heap.size]? ∧ w19.heap[w10.heap.size]? = w16.drew.heap[w10.heap.size]? ∧
 LoadL w19 (padd (some a0) 3) 0 [.int .i64 x18] ∧ LoadL w19 (some ⟨w10.heap.size, 0, none⟩) 0 [.int .i64 x12, .int .i64 x13, .int .i64 x14] ∧ LoadL w19 (padd (some a0) 0) 0 [.pointer p17] ∧ Calls Tryz.prog n_flow_Delay #[.int .i64 x20] w19 (fun e w21 => ∃ (x22 : Int), e = .returned (.int .i64 x22) ∧ w21.heap[w.heap.size]? = w19.heap[w.heap.size]? ∧ w21.heap[w10.heap.size]? = w19.heap[w10.heap.size]? ∧
 LoadL w21 (padd (some a0) 3) 0 [.int .i64 x18] ∧ LoadL w21 (some ⟨w10.heap.size, 0, none⟩) 0 [.int .i64 x12, .int .i64 x13, .int .i64 x14] ∧ LoadL w21 (padd (some a0) 0) 0 [.pointer p17] ∧ Calls Tryz.prog 88 #[.pointer p17, .agg #[.int .i64 x12, .int .i64 x13, .int .i64 x14], .int .i64 (IntKind.wrap .i64 (x18 + x22))] w21 (fun e w23 => ∃ (b24 : Bool), e = .returned (.bool b24) ∧ w23.heap[w.heap.size]? = w21.heap[w.heap.size]? ∧ w23.heap[w10.heap.size]? = w21.heap[w10.heap.size]? ∧
 LoadL w23 (padd (some a0) 3) 0 [.int .i64 x18] ∧ ∃ n11, n11 < n7 ∧ ([.int .i64 a1_0, .int .i64 a1_1, .int .i64 a1_2] : List Value) = [.int .i64 a1_0, .int .i64 a1_1, .int .i64 a1_2] ∧ I6 n11 ((IntKind.wrap .i64 (x9 + 1))) w23))))
 (R (.returned (.tuple #[])) w10)))
theorem sim_Sim_wake.vc {a0 a1_0 a1_1 a1_2 w} {R : Ending → World → Prop} (h : sim_Sim_wake.pre a0 a1_0 a1_1 a1_2 w R) : Calls Tryz.prog n_sim_Sim_wake #[.pointer (some a0), .agg #[.int .i64 a1_0, .int .i64 a1_1, .int .i64 a1_2]] w R :=
 calls_of_eq (an := ⟨[(3, ⟨[(16, .int .i64)], [], []⟩)], [], []⟩) (args := [.pointer (some a0), .agg #[.int .i64 a1_0, .int .i64 a1_1, .int .i64 a1_2]]) Tryz.noNG Tryz.mixed Tryz.func45 h (by kernel_rfl)
def sim_Sim_change.pre (a0 : Addr) (a1_0 : Int) (a1_1 : Int) (a1_2 : Int) (a1_3 : Int) (w : World) (R : Ending → World → Prop) : Prop :=
 ∀ w0 : World, w0 = w.alloc (.cells #[.int .i64 a1_0, .int .i64 a1_1, .int .i64 a1_2, .int .i64 a1_3] 71) →
 ∃ (p1 : Option Addr), ld w0.drew (padd (some a0) 1) = some (.pointer p1) ∧
 Calls Tryz.prog 11 #[.pointer p1] w0.drew (fun e w2 => ∃ (v3 : Value), e = .returned (v3) ∧ w2.heap[w.heap.size]? = w0.drew.heap[w.heap.size]? ∧
 LoadL w2 (some ⟨w.heap.size, 3, none⟩) 0 [.int .i64 a1_3] ∧ LoadL w2 (some ⟨w.heap.size, 0, none⟩) 0 [.int .i64 a1_0, .int .i64 a1_1, .int .i64 a1_2] ∧ callV Tryz.prog v3 [.agg #[.int .i64 a1_0, .int .i64 a1_1, .int .i64 a1_2]] w2 (fun e w4 => ∃ (x5 : Int), e = .returned (.int .i64 x5) ∧ w4.heap[w.heap.size]? = w2.heap[w.heap.size]? ∧
 LoadL w4 (some ⟨w.heap.size, 3, none⟩) 0 [.int .i64 a1_3] ∧ Br ((x5 : Int) != a1_3)
 (Calls Tryz.prog n_sim_Sim_Edit #[.pointer (some a0), .agg #[.int .i64 a1_0, .int .i64 a1_1, .int .i64 a1_2], .int .i64 a1_3] w4 (fun e w6 => ∃ (x7 : Int), e = .returned (.int .i64 x7) ∧ w6.heap[w.heap.size]? = w4.heap[w.heap.size]? ∧
 R (.returned (.tuple #[])) w6))
 (R (.returned (.tuple #[])) w4)))
theorem sim_Sim_change.vc {a0 a1_0 a1_1 a1_2 a1_3 w} {R : Ending → World → Prop} (h : sim_Sim_change.pre a0 a1_0 a1_1 a1_2 a1_3 w R) : Calls Tryz.prog n_sim_Sim_change #[.pointer (some a0), .agg #[.int .i64 a1_0, .int .i64 a1_1, .int .i64 a1_2, .int .i64 a1_3]] w R :=
 calls_of_eq (an := ⟨[], [], []⟩) (args := [.pointer (some a0), .agg #[.int .i64 a1_0, .int .i64 a1_1, .int .i64 a1_2, .int .i64 a1_3]]) Tryz.noNG Tryz.mixed Tryz.func95 h (by kernel_rfl)
def sim_Sim_update.pre (a0 : Addr) (a1_0 : Int) (a1_1 : Int) (a1_2 : Int) (w : World) (R : Ending → World → Prop) : Prop :=
 ∀ w0 : World, w0 = w.alloc (.cells #[.int .i64 a1_0, .int .i64 a1_1, .int .i64 a1_2] 23) →
 ∃ (p1 : Option Addr), ld w0.drew (padd (some a0) 1) = some (.pointer p1) ∧
 Calls Tryz.prog 91 #[.pointer p1, .agg #[.int .i64 a1_0, .int .i64 a1_1, .int .i64 a1_2]] w0.drew (fun e w2 => ∃ (b3 : Bool), e = .returned (.bool b3) ∧ w2.heap[w.heap.size]? = w0.drew.heap[w.heap.size]? ∧
 Br (!b3)
 (∃ (p4 : Option Addr), ld w2.drew (padd (some a0) 0) = some (.pointer p4) ∧
 ∃ (x5 : Int), ld w2.drew (padd (some a0) 3) = some (.int .i64 x5) ∧
 Calls Tryz.prog 88 #[.pointer p4, .agg #[.int .i64 a1_0, .int .i64 a1_1, .int .i64 a1_2], .int .i64 (IntKind.wrap .i64 (x5 + 1))] w2.drew (fun e w6 => ∃ (b7 : Bool), e = .returned (.bool b7) ∧ w6.heap[w.heap.size]? = w2.drew.heap[w.heap.size]? ∧
 LoadL w6 (padd (some a0) 3) 0 [.int .i64 x5] ∧ R (.returned (.tuple #[])) w6))
 (∃ (p8 : Option Addr), ld w2 (padd (some a0) 1) = some (.pointer p8) ∧
 Calls Tryz.prog 11 #[.pointer p8] w2 (fun e w9 => ∃ (v10 : Value), e = .returned (v10) ∧ w9.heap[w.heap.size]? = w2.heap[w.heap.size]? ∧
 Calls Tryz.prog n_flow_Next #[v10, .agg #[.int .i64 a1_0, .int .i64 a1_1, .int .i64 a1_2]] w9 (fun e w11 => ∃ (s12 : Sl), e = .returned (.slice s12.a s12.n s12.c) ∧ w11.heap[w.heap.size]? = w9.heap[w.heap.size]? ∧
 Calls Tryz.prog n_cell_Near #[.agg #[.int .i64 a1_0, .int .i64 a1_1, .int .i64 a1_2]] w11 (fun e w13 => ∃ (x14 : Int) (x15 : Int) (x16 : Int) (x17 : Int) (x18 : Int) (x19 : Int) (x20 : Int) (x21 : Int) (x22 : Int) (x23 : Int) (x24 : Int) (x25 : Int) (x26 : Int) (x27 : Int) (x28 : Int) (x29 : Int) (x30 : Int) (x31 : Int), e = .returned (.agg #[.int .i64 x14, .int .i64 x15, .int .i64 x16, .int .i64 x17, .int .i64 x18, .int .i64 x19, .int .i64 x20, .int .i64 x21, .int .i64 x22, .int .i64 x23, .int .i64 x24, .int .i64 x25, .int .i64 x26, .int .i64 x27, .int .i64 x28, .int .i64 x29, .int .i64 x30, .int .i64 x31]) ∧ w13.heap[w.heap.size]? = w11.heap[w.heap.size]? ∧
 ((0 : Int) ≤ 2 ∧ (2 : Int) < ((6 : Nat) : Int)) ∧ ∃ (x32 : Int) (x33 : Int) (x34 : Int), (([.int .i64 x14, .int .i64 x15, .int .i64 x16, .int .i64 x17, .int .i64 x18, .int .i64 x19, .int .i64 x20, .int .i64 x21, .int .i64 x22, .int .i64 x23, .int .i64 x24, .int .i64 x25, .int .i64 x26, .int .i64 x27, .int .i64 x28, .int .i64 x29, .int .i64 x30, .int .i64 x31] : List Value).drop ((2 : Int).toNat * 3)).take 3 = [.int .i64 x32, .int .i64 x33, .int .i64 x34] ∧
 ∀ w35 : World, w35 = w13.alloc (.cells #[.int .i64 0, .int .i64 0, .int .i64 0] 23) →
 ∀ w36 : World, w36 = w35.setRow w13.heap.size #[.int .i64 x32, .int .i64 x33, .int .i64 x34] →
 callV Tryz.prog v10 [.agg #[.int .i64 a1_0, .int .i64 a1_1, .int .i64 a1_2]] w36.drew (fun e w37 => ∃ (x38 : Int), e = .returned (.int .i64 x38) ∧ w37.heap[w.heap.size]? = w36.drew.heap[w.heap.size]? ∧ w37.heap[w13.heap.size]? = w36.drew.heap[w13.heap.size]? ∧
 Calls Tryz.prog 94 #[.int .i64 x38] w37 (fun e w39 => ∃ (b40 : Bool), e = .returned (.bool b40) ∧ w39.heap[w.heap.size]? = w37.heap[w.heap.size]? ∧ w39.heap[w13.heap.size]? = w37.heap[w13.heap.size]? ∧
 Br b40
 (Br (decide ((((s12.n : Nat) : Int) : Int) > 0))
 (∃ (v41 : Value), ld w39 (padd (some a0) 4) = some (v41) ∧
 callV Tryz.prog v41 [.agg #[.int .i64 x32, .int .i64 x33, .int .i64 x34]] w39 (fun e w42 => ∃ (b43 : Bool), e = .returned (.bool b43) ∧ w42.heap[w.heap.size]? = w39.heap[w.heap.size]? ∧ w42.heap[w13.heap.size]? = w39.heap[w13.heap.size]? ∧
 Br b43
 (∀ w44 : World, w44 = w42.alloc (.cells #[.int .i64 a1_0, .int .i64 a1_1, .int .i64 a1_2, .int .i64 0] 71) →
 ∃ (s45 : Sl), ld w44.drew (padd (some a0) 5) = some (.slice s45.a s45.n s45.c) ∧
 ∀ w46 : World, w46 = w44.drew.alloc (.cells #[.int .i64 x32, .int .i64 x33, .int .i64 x34] 23) →
 AppPre 24 3 w46 ⟨s45.a, s45.n, s45.c⟩ 1 [.int .i64 x32, .int .i64 x33, .int .i64 x34] ∧ ∀ (s47 : Sl) (w48 : World), AppRes 23 3 w46 ⟨s45.a, s45.n, s45.c⟩ 1 [.int .i64 x32, .int .i64 x33, .int .i64 x34] s47 w48 → w48.heap[w.heap.size]? = w46.heap[w.heap.size]? ∧ w48.heap[w13.heap.size]? = w46.heap[w13.heap.size]? ∧ w48.heap[w42.heap.size]? = w46.heap[w42.heap.size]? ∧ w48.heap[w44.drew.heap.size]? = w46.heap[w44.drew.heap.size]? ∧
 (true = true ∧ Wr w48 (padd (some a0) 5) 1) ∧ pblk (padd (some a0) 5) ≠ some w.heap.size ∧ pblk (padd (some a0) 5) ≠ some w13.heap.size ∧ pblk (padd (some a0) 5) ≠ some w42.heap.size ∧ pblk (padd (some a0) 5) ≠ some w44.drew.heap.size ∧ (∀ w49 : World, w49 = setP w48 (padd (some a0) 5) [.slice s47.a s47.n s47.c] →
 ∃ I50 : Nat → Int → World → Prop,
 (∃ n51, ([.int .i64 a1_0, .int .i64 a1_1, .int .i64 a1_2] : List Value) = [.int .i64 a1_0, .int .i64 a1_1, .int .i64 a1_2] ∧ ([.int .i64 x32, .int .i64 x33, .int .i64 x34] : List Value) = [.int .i64 x32, .int .i64 x33, .int .i64 x34] ∧ ([.int .i64 a1_0, .int .i64 a1_1, .int .i64 a1_2, .int .i64 0] : List Value) = [.int .i64 a1_0, .int .i64 a1_1, .int .i64 a1_2, .int .i64 0] ∧ ([.int .i64 x32, .int .i64 x33, .int .i64 x34] : List Value) = [.int .i64 x32, .int .i64 x33, .int .i64 x34] ∧ I50 n51 (0) w49) ∧
 ∀ (n51 : Nat) (us52 : Nat → Value) (x53 : Int) (w54 : World), I50 n51 x53 w54 →
 Br (decide ((x53 : Int) < ((1 : Nat) : Int)))
 (InB (some ⟨w42.heap.size, 0, none⟩) x53 1 ∧ ∃ (x56 : Int) (x57 : Int) (x58 : Int) (x59 : Int), LoadL w54 (padd (some ⟨w42.heap.size, 0, none⟩) ((x53 : Int).toNat * 4)) 0 [.int .i64 x56, .int .i64 x57, .int .i64 x58, .int .i64 x59] ∧
 ∀ w60 : World, w60 = w54.alloc (.cells #[.int .i64 0, .int .i64 0, .int .i64 0, .int .i64 0] 71) →
 ∀ w61 : World, w61 = w60.setRow w54.heap.size #[.int .i64 x56, .int .i64 x57, .int .i64 x58, .int .i64 x59] →
 Calls Tryz.prog n_sim_Sim_change #[.pointer (some a0), .agg #[.int .i64 x56, .int .i64 x57, .int .i64 x58, .int .i64 x59]] w61 (fun e w62 => e = .returned (.tuple #[]) ∧ w62.heap[w.heap.size]? = w61.heap[w.heap.size]? ∧ w62.heap[w13.heap.size]? = w61.heap[w13.heap.size]? ∧ w62.heap[w42.heap.size]? = w61.heap[w42.heap.size]? ∧ w62.heap[w44.drew.heap.size]? = w61.heap[w44.drew.heap.size]? ∧ w62.heap[w54.heap.size]? = w61.heap[w54.heap.size]? ∧
 ∃ n55, n55 < n51 ∧ ([.int .i64 a1_0, .int .i64 a1_1, .int .i64 a1_2] : List Value) = [.int .i64 a1_0, .int .i64 a1_1, .int .i64 a1_2] ∧ ([.int .i64 x32, .int .i64 x33, .int .i64 x34] : List Value) = [.int .i64 x32, .int .i64 x33, .int .i64 x34] ∧ ([.int .i64 a1_0, .int .i64 a1_1, .int .i64 a1_2, .int .i64 0] : List Value) = [.int .i64 a1_0, .int .i64 a1_1, .int .i64 a1_2, .int .i64 0] ∧ ([.int .i64 x32, .int .i64 x33, .int .i64 x34] : List Value) = [.int .i64 x32, .int .i64 x33, .int .i64 x34] ∧ I50 n55 ((IntKind.wrap .i64 (x53 + 1))) w62))
 (R (.returned (.tuple #[])) w54)))
 (∃ I63 : Nat → Int → World → Prop,
 (∃ n64, ([.int .i64 a1_0, .int .i64 a1_1, .int .i64 a1_2] : List Value) = [.int .i64 a1_0, .int .i64 a1_1, .int .i64 a1_2] ∧ ([.int .i64 x32, .int .i64 x33, .int .i64 x34] : List Value) = [.int .i64 x32, .int .i64 x33, .int .i64 x34] ∧ I63 n64 (0) w42) ∧
 ∀ (n64 : Nat) (us65 : Nat → Value) (x66 : Int) (w67 : World), I63 n64 x66 w67 →
 Br (decide ((x66 : Int) < ((s12.n : Nat) : Int)))
 (InB s12.a x66 s12.n ∧ ∃ (x69 : Int) (x70 : Int) (x71 : Int) (x72 : Int), LoadL w67 (padd s12.a ((x66 : Int).toNat * 4)) 0 [.int .i64 x69, .int .i64 x70, .int .i64 x71, .int .i64 x72] ∧
 ∀ w73 : World, w73 = w67.alloc (.cells #[.int .i64 0, .int .i64 0, .int .i64 0, .int .i64 0] 71) →
 ∀ w74 : World, w74 = w73.setRow w67.heap.size #[.int .i64 x69, .int .i64 x70, .int .i64 x71, .int .i64 x72] →
 Calls Tryz.prog n_sim_Sim_change #[.pointer (some a0), .agg #[.int .i64 x69, .int .i64 x70, .int .i64 x71, .int .i64 x72]] w74 (fun e w75 => e = .returned (.tuple #[]) ∧ w75.heap[w.heap.size]? = w74.heap[w.heap.size]? ∧ w75.heap[w13.heap.size]? = w74.heap[w13.heap.size]? ∧ w75.heap[w67.heap.size]? = w74.heap[w67.heap.size]? ∧
 ∃ n68, n68 < n64 ∧ ([.int .i64 a1_0, .int .i64 a1_1, .int .i64 a1_2] : List Value) = [.int .i64 a1_0, .int .i64 a1_1, .int .i64 a1_2] ∧ ([.int .i64 x32, .int .i64 x33, .int .i64 x34] : List Value) = [.int .i64 x32, .int .i64 x33, .int .i64 x34] ∧ I63 n68 ((IntKind.wrap .i64 (x66 + 1))) w75))
 (R (.returned (.tuple #[])) w67))))
 (∃ I76 : Nat → Int → World → Prop,
 (∃ n77, ([.int .i64 a1_0, .int .i64 a1_1, .int .i64 a1_2] : List Value) = [.int .i64 a1_0, .int .i64 a1_1, .int .i64 a1_2] ∧ ([.int .i64 x32, .int .i64 x33, .int .i64 x34] : List Value) = [.int .i64 x32, .int .i64 x33, .int .i64 x34] ∧ I76 n77 (0) w39) ∧
 ∀ (n77 : Nat) (us78 : Nat → Value) (x79 : Int) (w80 : World), I76 n77 x79 w80 →
 Br (decide ((x79 : Int) < ((s12.n : Nat) : Int)))
 (InB s12.a x79 s12.n ∧ ∃ (x82 : Int) (x83 : Int) (x84 : Int) (x85 : Int), LoadL w80 (padd s12.a ((x79 : Int).toNat * 4)) 0 [.int .i64 x82, .int .i64 x83, .int .i64 x84, .int .i64 x85] ∧
 ∀ w86 : World, w86 = w80.alloc (.cells #[.int .i64 0, .int .i64 0, .int .i64 0, .int .i64 0] 71) →
 ∀ w87 : World, w87 = w86.setRow w80.heap.size #[.int .i64 x82, .int .i64 x83, .int .i64 x84, .int .i64 x85] →
 Calls Tryz.prog n_sim_Sim_change #[.pointer (some a0), .agg #[.int .i64 x82, .int .i64 x83, .int .i64 x84, .int .i64 x85]] w87 (fun e w88 => e = .returned (.tuple #[]) ∧ w88.heap[w.heap.size]? = w87.heap[w.heap.size]? ∧ w88.heap[w13.heap.size]? = w87.heap[w13.heap.size]? ∧ w88.heap[w80.heap.size]? = w87.heap[w80.heap.size]? ∧
 ∃ n81, n81 < n77 ∧ ([.int .i64 a1_0, .int .i64 a1_1, .int .i64 a1_2] : List Value) = [.int .i64 a1_0, .int .i64 a1_1, .int .i64 a1_2] ∧ ([.int .i64 x32, .int .i64 x33, .int .i64 x34] : List Value) = [.int .i64 x32, .int .i64 x33, .int .i64 x34] ∧ I76 n81 ((IntKind.wrap .i64 (x79 + 1))) w88))
 (R (.returned (.tuple #[])) w80)))
 (∃ I89 : Nat → Int → World → Prop,
 (∃ n90, ([.int .i64 a1_0, .int .i64 a1_1, .int .i64 a1_2] : List Value) = [.int .i64 a1_0, .int .i64 a1_1, .int .i64 a1_2] ∧ ([.int .i64 x32, .int .i64 x33, .int .i64 x34] : List Value) = [.int .i64 x32, .int .i64 x33, .int .i64 x34] ∧ I89 n90 (0) w39) ∧
 ∀ (n90 : Nat) (us91 : Nat → Value) (x92 : Int) (w93 : World), I89 n90 x92 w93 →
 Br (decide ((x92 : Int) < ((s12.n : Nat) : Int)))
 (InB s12.a x92 s12.n ∧ ∃ (x95 : Int) (x96 : Int) (x97 : Int) (x98 : Int), LoadL w93 (padd s12.a ((x92 : Int).toNat * 4)) 0 [.int .i64 x95, .int .i64 x96, .int .i64 x97, .int .i64 x98] ∧
 ∀ w99 : World, w99 = w93.alloc (.cells #[.int .i64 0, .int .i64 0, .int .i64 0, .int .i64 0] 71) →
 ∀ w100 : World, w100 = w99.setRow w93.heap.size #[.int .i64 x95, .int .i64 x96, .int .i64 x97, .int .i64 x98] →
 Calls Tryz.prog n_sim_Sim_change #[.pointer (some a0), .agg #[.int .i64 x95, .int .i64 x96, .int .i64 x97, .int .i64 x98]] w100 (fun e w101 => e = .returned (.tuple #[]) ∧ w101.heap[w.heap.size]? = w100.heap[w.heap.size]? ∧ w101.heap[w13.heap.size]? = w100.heap[w13.heap.size]? ∧ w101.heap[w93.heap.size]? = w100.heap[w93.heap.size]? ∧
 ∃ n94, n94 < n90 ∧ ([.int .i64 a1_0, .int .i64 a1_1, .int .i64 a1_2] : List Value) = [.int .i64 a1_0, .int .i64 a1_1, .int .i64 a1_2] ∧ ([.int .i64 x32, .int .i64 x33, .int .i64 x34] : List Value) = [.int .i64 x32, .int .i64 x33, .int .i64 x34] ∧ I89 n94 ((IntKind.wrap .i64 (x92 + 1))) w101))
 (R (.returned (.tuple #[])) w93)))))))))
theorem sim_Sim_update.vc {a0 a1_0 a1_1 a1_2 w} {R : Ending → World → Prop} (h : sim_Sim_update.pre a0 a1_0 a1_1 a1_2 w R) : Calls Tryz.prog n_sim_Sim_update #[.pointer (some a0), .agg #[.int .i64 a1_0, .int .i64 a1_1, .int .i64 a1_2]] w R :=
 calls_of_eq (an := ⟨[(10, ⟨[(70, .int .i64)], [], []⟩), (10, ⟨[(70, .int .i64)], [], []⟩), (10, ⟨[(70, .int .i64)], [], []⟩), (10, ⟨[(70, .int .i64)], [], []⟩)], [], []⟩) (args := [.pointer (some a0), .agg #[.int .i64 a1_0, .int .i64 a1_1, .int .i64 a1_2]]) Tryz.noNG Tryz.mixed Tryz.func47 h (by kernel_rfl)
def sim_Sim_Tick.pre (a0 : Addr) (w : World) (R : Ending → World → Prop) : Prop :=
 ∃ (x0 : Int), ld w (padd (some a0) 3) = some (.int .i64 x0) ∧
 (true = true ∧ Wr w (padd (some a0) 3) 1) ∧ (∀ w1 : World, w1 = setP w (padd (some a0) 3) [.int .i64 (if 1099511627776 < (IntKind.wrap .i64 (x0 + 1)) then 1099511627776 else (IntKind.wrap .i64 (x0 + 1)))] →
 ∃ (p2 : Option Addr), ld w1.drew (padd (some a0) 0) = some (.pointer p2) ∧
 ∃ (x3 : Int), ld w1.drew (padd (some a0) 3) = some (.int .i64 x3) ∧
 ∃ (x4 : Int), ld w1.drew (padd (some a0) 2) = some (.int .i64 x4) ∧
 Calls Tryz.prog 46 #[.pointer p2, .int .i64 x3, .int .i64 x4] w1.drew (fun e w5 => ∃ (s6 : Sl), e = .returned (.slice s6.a s6.n s6.c) ∧
 ∃ I7 : Nat → Int → World → Prop,
 (∃ n8, I7 n8 (0) w5) ∧
 ∀ (n8 : Nat) (us9 : Nat → Value) (x10 : Int) (w11 : World), I7 n8 x10 w11 →
 Br (decide ((x10 : Int) < ((s6.n : Nat) : Int)))
 (InB s6.a x10 s6.n ∧ ∃ (x13 : Int) (x14 : Int) (x15 : Int), LoadL w11 (padd s6.a ((x10 : Int).toNat * 3)) 0 [.int .i64 x13, .int .i64 x14, .int .i64 x15] ∧
 ∀ w16 : World, w16 = w11.alloc (.cells #[.int .i64 0, .int .i64 0, .int .i64 0] 23) →
 ∀ w17 : World, w17 = w16.setRow w11.heap.size #[.int .i64 x13, .int .i64 x14, .int .i64 x15] →
 Calls Tryz.prog n_sim_Sim_update #[.pointer (some a0), .agg #[.int .i64 x13, .int .i64 x14, .int .i64 x15]] w17 (fun e w18 => e = .returned (.tuple #[]) ∧ w18.heap[w11.heap.size]? = w17.heap[w11.heap.size]? ∧
 ∃ n12, n12 < n8 ∧ I7 n12 ((IntKind.wrap .i64 (x10 + 1))) w18))
 (R (.returned (.int .i64 ((s6.n : Nat) : Int))) w11)))
theorem sim_Sim_Tick.vc {a0 w} {R : Ending → World → Prop} (h : sim_Sim_Tick.pre a0 w R) : Calls Tryz.prog n_sim_Sim_Tick #[.pointer (some a0)] w R :=
 calls_of_eq (an := ⟨[(4, ⟨[(30, .int .i64)], [], []⟩)], [], []⟩) (args := [.pointer (some a0)]) Tryz.noNG Tryz.mixed Tryz.func15 h (by kernel_rfl)
def sim_Sim_Run.pre (a0 : Addr) (a1 : Int) (w : World) (R : Ending → World → Prop) : Prop :=
 ∃ I0 : Nat → Int → World → Prop,
 (∃ n1, I0 n1 (0) w) ∧
 ∀ (n1 : Nat) (us2 : Nat → Value) (x3 : Int) (w4 : World), I0 n1 x3 w4 →
 ∃ (p6 : Option Addr), ld w4 (padd (some a0) 0) = some (.pointer p6) ∧
 Calls Tryz.prog 48 #[.pointer p6] w4 (fun e w7 => ∃ (x8 : Int), e = .returned (.int .i64 x8) ∧
 Br (decide ((x8 : Int) > 0))
 (Br (decide ((x3 : Int) < (if 1000 < a1 then 1000 else a1)))
 (Calls Tryz.prog n_sim_Sim_Tick #[.pointer (some a0)] w7 (fun e w9 => ∃ (x10 : Int), e = .returned (.int .i64 x10) ∧
 ∃ n5, n5 < n1 ∧ I0 n5 ((IntKind.wrap .i64 (x3 + 1))) w9))
 (R (.returned (.int .i64 x3)) w7))
 (R (.returned (.int .i64 x3)) w7))
theorem sim_Sim_Run.vc {a0 a1 w} {R : Ending → World → Prop} (h : sim_Sim_Run.pre a0 a1 w R) : Calls Tryz.prog n_sim_Sim_Run #[.pointer (some a0), .int .i64 a1] w R :=
 calls_of_eq (an := ⟨[(2, ⟨[(5, .int .i64)], [], []⟩)], [], []⟩) (args := [.pointer (some a0), .int .i64 a1]) Tryz.noNG Tryz.mixed Tryz.func16 h (by kernel_rfl)
end Go.Proofs.YtalpkjfpmdpbiaaGreatDoor
