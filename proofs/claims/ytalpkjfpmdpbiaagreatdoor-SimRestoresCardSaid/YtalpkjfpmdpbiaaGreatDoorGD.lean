import Derived.Test.YtalpkjfpmdpbiaaGreatDoorGC
set_option linter.all false
namespace Go.Proofs.YtalpkjfpmdpbiaaGreatDoor
open Go Go.Vc Go.RowKit Go.Proofs
set_option maxRecDepth 100000
set_option maxHeartbeats 8000000
variable{R:Ending->World->Prop}
set_option linter.unusedVariables false
abbrev sP:FuncId:=26
abbrev rp:FuncId:=57
abbrev mH:FuncId:=55
abbrev k9:FuncId:=56
abbrev dZ:FuncId:=100
abbrev oS:FuncId:=101
abbrev kz:FuncId:=58
abbrev jl:FuncId:=102
abbrev mG:FuncId:=103
abbrev qk:FuncId:=25
abbrev kC:FuncId:=30
abbrev ql:FuncId:=31
abbrev kD:FuncId:=28
def rq.pre (a0_0 a0_1 a0_2 a0_3 a0_4 : Int) (a0_5 a0_6 a0_7 a0_8 : Sl) (a0_9 a0_10 : Int) (a0_11 : Sl) (a0_12 a0_13 : Int) (a0_14 a0_15 : Sl) (a1_0 a1_1 a1_2 a2 : Int) (w : World) (R : Ending → World → Prop) : Prop :=
 ∀ w0 : World, w0 = w.alloc (.cells #[a0_0, a0_1, a0_2, a0_3, a0_4, a0_5, a0_6, a0_7, a0_8, a0_9, a0_10, a0_11, a0_12, a0_13, a0_14, a0_15] 39) →
 ∀ w1 : World, w1 = w0.alloc (.cells #[a1_0, a1_1, a1_2] 23) →
 ∀ w2 : World, w2 = w1.alloc (.cells #[(0:Int), (0:Int), (0:Int), (0:Int), (0:Int), .slice none 0 0, .slice none 0 0, .slice none 0 0, .slice none 0 0, (0:Int), (0:Int), .slice none 0 0, (0:Int), (0:Int), .slice none 0 0, .slice none 0 0] 39) →
 Calls Tryz.prog 54 #[.agg #[a0_0, a0_1, a0_2, a0_3, a0_4, a0_5, a0_6, a0_7, a0_8], .agg #[a1_0, a1_1, a1_2], a2] w2 (fun e w3 => ∃ (x4 x5 x6 x7 x8 : Int) (s9 s10 s11 s12 : Sl) (x13 : Int), e = .returned (.tuple #[.agg #[x4, x5, x6, x7, x8, s9, s10, s11, s12], x13]) ∧ Kp w w2 w3 ∧ Kp w0 w2 w3 ∧ Kp w1 w2 w3 ∧
 ∀ w14 : World, w14 = w3.alloc (.cells #[(0:Int), (0:Int), (0:Int), (0:Int), (0:Int), .slice none 0 0, .slice none 0 0, .slice none 0 0, .slice none 0 0] 33) →
 ∀ w15 : World, w15 = w14.setRow w3 #[x4, x5, x6, x7, x8, s9, s10, s11, s12] →
 ∀ w16 : World, w16 = w15.setRow w #[x4, x5, x6, x7, x8, s9, s10, s11, s12, a0_9, a0_10, a0_11, a0_12, a0_13, a0_14, a0_15] →
 Br (x13 != 0)
 (∀ w17 : World, w17 = w16.setRow w1 #[x4, x5, x6, x7, x8, s9, s10, s11, s12, a0_9, a0_10, a0_11, a0_12, a0_13, a0_14, a0_15] →
 R (.returned (.tuple #[.agg #[x4, x5, x6, x7, x8, s9, s10, s11, s12, a0_9, a0_10, a0_11, a0_12, a0_13, a0_14, a0_15], x13])) w17)
 (Calls Tryz.prog mH #[.agg #[a1_0, a1_1, a1_2]] w16 (fun e w18 => ∃ (s19 : Sl), e = .returned s19 ∧ Kp w w16 w18 ∧ Kp w0 w16 w18 ∧ Kp w1 w16 w18 ∧ Kp w3 w16 w18 ∧
 ∃ I20 : Nat → Int → Int → Int → Int → Int → Int → Sl → Sl → Sl → Sl → Int → Int → Sl → Int → Int → Sl → Sl → World → Prop,
 (∃ n21, aT [a1_0, a1_1, a1_2] ∧ aT [(0:Int), (0:Int), (0:Int), (0:Int), (0:Int), .slice none 0 0, .slice none 0 0, .slice none 0 0, .slice none 0 0, (0:Int), (0:Int), .slice none 0 0, (0:Int), (0:Int), .slice none 0 0, .slice none 0 0] ∧ aT [x4, x5, x6, x7, x8, s9, s10, s11, s12] ∧ I20 n21 (0) x4 x5 x6 x7 x8 s9 s10 s11 s12 a0_9 a0_10 a0_11 a0_12 a0_13 a0_14 a0_15 w18) ∧
 ∀ (n21 : Nat) (us22 : Nat → Value) (x23 x24 x25 x26 x27 x28 : Int) (s29 s30 s31 s32 : Sl) (x33 x34 : Int) (s35 : Sl) (x36 x37 : Int) (s38 s39 : Sl) (w40 : World), I20 n21 x23 x24 x25 x26 x27 x28 s29 s30 s31 s32 x33 x34 s35 x36 x37 s38 s39 w40 →
 Br (decide (x23 < ((s19.n : Nat) : Int)))
 (bA s19.a x23 s19.n ∧ ∃ (x42 x43 x44 : Int), ah w40.drew (ab s19.a ((x23 : Int).toNat * 3)) 0 [x42, x43, x44] ∧
 Calls Tryz.prog rp #[.agg #[x24, x25, x26, x27, x28, s29, s30, s31, s32, x33, x34, s35, x36, x37, s38, s39], .agg #[x42, x43, x44]] w40.drew (fun e w45 => ∃ (x46 : Int), e = .returned x46 ∧ Kp w w40.drew w45 ∧ Kp w0 w40.drew w45 ∧ Kp w1 w40.drew w45 ∧ Kp w3 w40.drew w45 ∧
 Calls Tryz.prog k9 #[x46] w45 (fun e w47 => ∃ (x48 : Int), e = .returned x48 ∧ Kp w w45 w47 ∧ Kp w0 w45 w47 ∧ Kp w1 w45 w47 ∧ Kp w3 w45 w47 ∧
 Br (decide (x48 > 0))
 (bA s19.a x23 s19.n ∧ ∃ (x49 x50 x51 : Int), ah w47.drew (ab s19.a ((x23 : Int).toNat * 3)) 0 [x49, x50, x51] ∧
 (Calls Tryz.prog kz #[.agg #[x33, x34, s35], .agg #[x49, x50, x51], (IntKind.wrap .i64 (x37 + x48))] w47.drew (fun e w52 => ∃ (x53 x54 : Int) (s55 : Sl) (b56 : Bool), e = .returned (.tuple #[.agg #[x53, x54, s55], .bool b56]) ∧ Kp w w47.drew w52 ∧ Kp w0 w47.drew w52 ∧ Kp w1 w47.drew w52 ∧ Kp w3 w47.drew w52 ∧
 ah w52 (some ⟨w, 13, none⟩) 0 [x37] ∧ ∀ w57 : World, w57 = w52.alloc (.cells #[(0:Int), (0:Int), .slice none 0 0] 36) →
 ∀ w58 : World, w58 = w57.setRow w52 #[x53, x54, s55] →
 ∀ w59 : World, w59 = w58.setRow w #[x24, x25, x26, x27, x28, s29, s30, s31, s32, x53, x54, s55, x36, x37, s38, s39] →
 ∃ n41, n41 < n21 ∧ aT [a1_0, a1_1, a1_2] ∧ aT [(0:Int), (0:Int), (0:Int), (0:Int), (0:Int), .slice none 0 0, .slice none 0 0, .slice none 0 0, .slice none 0 0, (0:Int), (0:Int), .slice none 0 0, (0:Int), (0:Int), .slice none 0 0, .slice none 0 0] ∧ aT [x4, x5, x6, x7, x8, s9, s10, s11, s12] ∧ I20 n41 ((IntKind.wrap .i64 (x23 + 1))) x24 x25 x26 x27 x28 s29 s30 s31 s32 x53 x54 s55 x36 x37 s38 s39 w59)) ∧ (∀ w60 : World, w60 = w47.drew.alloc (.cells #[(0:Int), (0:Int), .slice none 0 0] 36) →
 Calls Tryz.prog kz #[.agg #[x33, x34, s35], .agg #[x49, x50, x51], (IntKind.wrap .i64 (x37 + x48))] w60 (fun e w61 => ∃ (x62 x63 : Int) (s64 : Sl) (b65 : Bool), e = .returned (.tuple #[.agg #[x62, x63, s64], .bool b65]) ∧ Kp w w60 w61 ∧ Kp w0 w60 w61 ∧ Kp w1 w60 w61 ∧ Kp w3 w60 w61 ∧ w61.heap[w47.drew.heap.size]? = w60.heap[w47.drew.heap.size]? ∧
 ah w61 (some ⟨w, 13, none⟩) 0 [x37] ∧ ∀ w66 : World, w66 = w61.setRow w47.drew.heap.size #[x62, x63, s64] →
 ∀ w67 : World, w67 = w66.setRow w #[x24, x25, x26, x27, x28, s29, s30, s31, s32, x62, x63, s64, x36, x37, s38, s39] →
 ∃ n41, n41 < n21 ∧ aT [a1_0, a1_1, a1_2] ∧ aT [(0:Int), (0:Int), (0:Int), (0:Int), (0:Int), .slice none 0 0, .slice none 0 0, .slice none 0 0, .slice none 0 0, (0:Int), (0:Int), .slice none 0 0, (0:Int), (0:Int), .slice none 0 0, .slice none 0 0] ∧ aT [x4, x5, x6, x7, x8, s9, s10, s11, s12] ∧ I20 n41 ((IntKind.wrap .i64 (x23 + 1))) x24 x25 x26 x27 x28 s29 s30 s31 s32 x62 x63 s64 x36 x37 s38 s39 w67)))
 (∃ n41, n41 < n21 ∧ aT [a1_0, a1_1, a1_2] ∧ aT [(0:Int), (0:Int), (0:Int), (0:Int), (0:Int), .slice none 0 0, .slice none 0 0, .slice none 0 0, .slice none 0 0, (0:Int), (0:Int), .slice none 0 0, (0:Int), (0:Int), .slice none 0 0, .slice none 0 0] ∧ aT [x4, x5, x6, x7, x8, s9, s10, s11, s12] ∧ I20 n41 ((IntKind.wrap .i64 (x23 + 1))) x24 x25 x26 x27 x28 s29 s30 s31 s32 x33 x34 s35 x36 x37 s38 s39 w47))))
 (∀ w68 : World, w68 = w40.setRow w1 #[x24, x25, x26, x27, x28, s29, s30, s31, s32, x33, x34, s35, x36, x37, s38, s39] →
 R (.returned (.tuple #[.agg #[x24, x25, x26, x27, x28, s29, s30, s31, s32, x33, x34, s35, x36, x37, s38, s39], (0:Int)])) w68))))
theorem rq.vc {a0_0 a0_1 a0_2 a0_3 a0_4 a0_5 a0_6 a0_7 a0_8 a0_9 a0_10 a0_11 a0_12 a0_13 a0_14 a0_15 a1_0 a1_1 a1_2 a2 w} (h : rq.pre a0_0 a0_1 a0_2 a0_3 a0_4 a0_5 a0_6 a0_7 a0_8 a0_9 a0_10 a0_11 a0_12 a0_13 a0_14 a0_15 a1_0 a1_1 a1_2 a2 w R) : Calls Tryz.prog sP #[.agg #[a0_0, a0_1, a0_2, a0_3, a0_4, a0_5, a0_6, a0_7, a0_8, a0_9, a0_10, a0_11, a0_12, a0_13, a0_14, a0_15], .agg #[a1_0, a1_1, a1_2], a2] w R :=
 cq ⟨[(7, ⟨[(11, .int .i64)], [(0, [.int .i64, .int .i64, .int .i64, .int .i64, .int .i64, .slice, .slice, .slice, .slice, .int .i64, .int .i64, .slice, .int .i64, .int .i64, .slice, .slice])], []⟩)], [], []⟩ Tryz.func26 h
def xW.pre (a0_0 a0_1 a0_2 a0_3 a0_4 : Int) (a0_5 a0_6 a0_7 a0_8 : Sl) (a0_9 a0_10 : Int) (a0_11 : Sl) (a0_12 a0_13 : Int) (a0_14 a0_15 : Sl) (a1_0 a1_1 a1_2 : Int) (w : World) (R : Ending → World → Prop) : Prop :=
 ∀ w0 : World, w0 = w.alloc (.cells #[a0_0, a0_1, a0_2, a0_3, a0_4, a0_5, a0_6, a0_7, a0_8, a0_9, a0_10, a0_11, a0_12, a0_13, a0_14, a0_15] 39) →
 ∀ w1 : World, w1 = w0.alloc (.cells #[a1_0, a1_1, a1_2] 23) →
 Calls Tryz.prog 22 #[.agg #[a0_0, a0_1, a0_2, a0_3, a0_4, a0_5, a0_6, a0_7], .agg #[a1_0, a1_1, a1_2]] w1 (fun e w2 => ∃ (x3 : Int), e = .returned x3 ∧ Kp w w1 w2 ∧ Kp w0 w1 w2 ∧
 R (.returned x3) w2)
theorem xW.vc {a0_0 a0_1 a0_2 a0_3 a0_4 a0_5 a0_6 a0_7 a0_8 a0_9 a0_10 a0_11 a0_12 a0_13 a0_14 a0_15 a1_0 a1_1 a1_2 w} (h : xW.pre a0_0 a0_1 a0_2 a0_3 a0_4 a0_5 a0_6 a0_7 a0_8 a0_9 a0_10 a0_11 a0_12 a0_13 a0_14 a0_15 a1_0 a1_1 a1_2 w R) : Calls Tryz.prog rp #[.agg #[a0_0, a0_1, a0_2, a0_3, a0_4, a0_5, a0_6, a0_7, a0_8, a0_9, a0_10, a0_11, a0_12, a0_13, a0_14, a0_15], .agg #[a1_0, a1_1, a1_2]] w R :=
 cq ⟨[], [], []⟩ Tryz.func57 h
def re.pre (a0_0 a0_1 a0_2 : Int) (w : World) (R : Ending → World → Prop) : Prop :=
 ∀ w0 : World, w0 = w.alloc (.cells #[a0_0, a0_1, a0_2] 23) →
 Calls Tryz.prog dZ #[.agg #[a0_0, a0_1, a0_2], .int .i64 (-1), (0:Int), (0:Int)] w0.drew (fun e w1 => ∃ (x2 x3 x4 : Int), e = .returned (.agg #[x2, x3, x4]) ∧ Kp w w0.drew w1 ∧
 ah w1 (some ⟨w, 0, none⟩) 0 [a0_0, a0_1, a0_2] ∧ ah w1 (some ⟨w, 0, none⟩) 0 [a0_0, a0_1, a0_2] ∧ ah w1 (some ⟨w, 0, none⟩) 0 [a0_0, a0_1, a0_2] ∧ ah w1 (some ⟨w, 0, none⟩) 0 [a0_0, a0_1, a0_2] ∧ ah w1 (some ⟨w, 0, none⟩) 0 [a0_0, a0_1, a0_2] ∧ ah w1 (some ⟨w, 0, none⟩) 0 [a0_0, a0_1, a0_2] ∧ Calls Tryz.prog dZ #[.agg #[a0_0, a0_1, a0_2], (1:Int), (0:Int), (0:Int)] w1 (fun e w5 => ∃ (x6 x7 x8 : Int), e = .returned (.agg #[x6, x7, x8]) ∧ Kp w w1 w5 ∧
 ah w5 (some ⟨w, 0, none⟩) 0 [a0_0, a0_1, a0_2] ∧ ah w5 (some ⟨w, 0, none⟩) 0 [a0_0, a0_1, a0_2] ∧ ah w5 (some ⟨w, 0, none⟩) 0 [a0_0, a0_1, a0_2] ∧ ah w5 (some ⟨w, 0, none⟩) 0 [a0_0, a0_1, a0_2] ∧ ah w5 (some ⟨w, 0, none⟩) 0 [a0_0, a0_1, a0_2] ∧ Calls Tryz.prog dZ #[.agg #[a0_0, a0_1, a0_2], (0:Int), .int .i64 (-1), (0:Int)] w5 (fun e w9 => ∃ (x10 x11 x12 : Int), e = .returned (.agg #[x10, x11, x12]) ∧ Kp w w5 w9 ∧
 ah w9 (some ⟨w, 0, none⟩) 0 [a0_0, a0_1, a0_2] ∧ ah w9 (some ⟨w, 0, none⟩) 0 [a0_0, a0_1, a0_2] ∧ ah w9 (some ⟨w, 0, none⟩) 0 [a0_0, a0_1, a0_2] ∧ ah w9 (some ⟨w, 0, none⟩) 0 [a0_0, a0_1, a0_2] ∧ Calls Tryz.prog dZ #[.agg #[a0_0, a0_1, a0_2], (0:Int), (1:Int), (0:Int)] w9 (fun e w13 => ∃ (x14 x15 x16 : Int), e = .returned (.agg #[x14, x15, x16]) ∧ Kp w w9 w13 ∧
 ah w13 (some ⟨w, 0, none⟩) 0 [a0_0, a0_1, a0_2] ∧ ah w13 (some ⟨w, 0, none⟩) 0 [a0_0, a0_1, a0_2] ∧ ah w13 (some ⟨w, 0, none⟩) 0 [a0_0, a0_1, a0_2] ∧ Calls Tryz.prog dZ #[.agg #[a0_0, a0_1, a0_2], (0:Int), (0:Int), .int .i64 (-1)] w13 (fun e w17 => ∃ (x18 x19 x20 : Int), e = .returned (.agg #[x18, x19, x20]) ∧ Kp w w13 w17 ∧
 ah w17 (some ⟨w, 0, none⟩) 0 [a0_0, a0_1, a0_2] ∧ ah w17 (some ⟨w, 0, none⟩) 0 [a0_0, a0_1, a0_2] ∧ Calls Tryz.prog dZ #[.agg #[a0_0, a0_1, a0_2], (0:Int), (0:Int), (1:Int)] w17 (fun e w21 => ∃ (x22 x23 x24 : Int), e = .returned (.agg #[x22, x23, x24]) ∧ Kp w w17 w21 ∧
 ah w21 (some ⟨w, 0, none⟩) 0 [a0_0, a0_1, a0_2] ∧ ∀ w25 : World, w25 = w21.alloc (.cells #[a0_0, a0_1, a0_2, x2, x3, x4, x6, x7, x8, x10, x11, x12, x14, x15, x16, x18, x19, x20, x22, x23, x24] 23) →
 R (.returned (.slice (some ⟨w21, 0, none⟩) 7 7)) w25))))))
theorem re.vc {a0_0 a0_1 a0_2 w} (h : re.pre a0_0 a0_1 a0_2 w R) : Calls Tryz.prog mH #[.agg #[a0_0, a0_1, a0_2]] w R :=
 cq ⟨[], [], []⟩ Tryz.func55 h
def oR.pre (a0 : Int) (w : World) (R : Ending → World → Prop) : Prop :=
 Br (a0 == 3)
 (R (.returned (2:Int)) w)
 (Calls Tryz.prog oS #[a0] w (fun e w0 => ∃ (b1 : Bool), e = .returned (.bool b1) ∧
 Br b1
 (R (.returned (5:Int)) w0)
 (R (.returned (0:Int)) w0)))
theorem oR.vc {a0 w} (h : oR.pre a0 w R) : Calls Tryz.prog k9 #[a0] w R :=
 cq ⟨[], [], []⟩ Tryz.func56 h
def xm.pre (a0_0 a0_1 a0_2 a1 a2 a3 : Int) (w : World) (R : Ending → World → Prop) : Prop :=
 ∀ w0 : World, w0 = w.alloc (.cells #[a0_0, a0_1, a0_2] 23) →
 ∀ w1 : World, w1 = w0.alloc (.cells #[(0:Int), (0:Int), (0:Int)] 23) →
 ∀ w2 : World, w2 = w1.setRow w0 #[(IntKind.wrap .i64 (a0_0 + a1)), (IntKind.wrap .i64 (a0_1 + a2)), (IntKind.wrap .i64 (a0_2 + a3))] →
 R (.returned (.agg #[(IntKind.wrap .i64 (a0_0 + a1)), (IntKind.wrap .i64 (a0_1 + a2)), (IntKind.wrap .i64 (a0_2 + a3))])) w2
theorem xm.vc {a0_0 a0_1 a0_2 a1 a2 a3 w} (h : xm.pre a0_0 a0_1 a0_2 a1 a2 a3 w R) : Calls Tryz.prog dZ #[.agg #[a0_0, a0_1, a0_2], a1, a2, a3] w R :=
 cq ⟨[], [], []⟩ Tryz.func100 h
def uo.pre (a0 : Int) (w : World) (R : Ending → World → Prop) : Prop :=
 Br (decide (a0 ≥ 8))
 (R (.returned (.bool (decide (a0 ≤ 15)))) w)
 (R (.returned (.bool false)) w)
theorem uo.vc {a0 w} (h : uo.pre a0 w R) : Calls Tryz.prog oS #[a0] w R :=
 cq ⟨[], [], []⟩ Tryz.func101 h
def uA.pre (a0_0 a0_1 : Int) (a0_2 : Sl) (a1_0 a1_1 a1_2 a2 : Int) (w : World) (R : Ending → World → Prop) : Prop :=
 ∀ w0 : World, w0 = w.alloc (.cells #[a0_0, a0_1, a0_2] 36) →
 ∀ w1 : World, w1 = w0.alloc (.cells #[a1_0, a1_1, a1_2] 23) →
 ∀ w2 : World, w2 = w1.alloc (.cells #[(0:Int), (0:Int), .slice none 0 0] 36) →
 Calls Tryz.prog jl #[.agg #[a0_0, a0_1, a0_2], .agg #[a1_0, a1_1, a1_2]] w2 (fun e w3 => ∃ (x4 : Int), e = .returned x4 ∧ Kp w w2 w3 ∧ Kp w0 w2 w3 ∧ Kp w1 w2 w3 ∧
 Br (decide (x4 ≥ 0))
 (bA a0_2.a x4 a0_2.n ∧ aK (ep (ab a0_2.a ((x4 : Int).toNat * 4))) (∃ (x5 : Int), ld w3 (ab (ab a0_2.a ((x4 : Int).toNat * 4)) 0) = some (.int .i64 x5) ∧
 Br (decide (x5 ≤ a2))
 (∀ w6 : World, w6 = w3.setRow w1 #[a0_0, a0_1, a0_2] →
 R (.returned (.tuple #[.agg #[a0_0, a0_1, a0_2], .bool false])) w6)
 (Calls Tryz.prog mG #[.agg #[a0_0, a0_1, a0_2], .agg #[a1_0, a1_1, a1_2]] w3 (fun e w7 => ∃ (x8 x9 : Int) (s10 : Sl) (CR : Bool), e = .returned (.tuple #[.agg #[x8, x9, s10], .bool CR]) ∧ Kp w w3 w7 ∧ Kp w0 w3 w7 ∧ Kp w1 w3 w7 ∧
 ∀ w12 : World, w12 = w7.alloc (.cells #[(0:Int), (0:Int), .slice none 0 0] 36) →
 ∀ w13 : World, w13 = w12.setRow w7 #[x8, x9, s10] →
 ∀ w14 : World, w14 = w13.setRow w #[x8, x9, s10] →
 Br (decide (x4 < 0))
 (Br (decide ((((s10.n : Nat) : Int) : Int) ≥ x8))
 (∀ w15 : World, w15 = w14.setRow w #[x8, (IntKind.wrap .i64 (x9 + 1)), s10] →
 ∀ w16 : World, w16 = w15.setRow w1 #[x8, (IntKind.wrap .i64 (x9 + 1)), s10] →
 R (.returned (.tuple #[.agg #[x8, (IntKind.wrap .i64 (x9 + 1)), s10], .bool false])) w16)
 (∃ I17 : Nat → Int → World → Prop,
 (∃ n18, aT [x8, x9, s10] ∧ aT [a1_0, a1_1, a1_2] ∧ aT [(0:Int), (0:Int), .slice none 0 0] ∧ aT [x8, x9, s10] ∧ I17 n18 (((s10.n : Nat) : Int)) w14) ∧
 ∀ (n18 : Nat) (us19 : Nat → Value) (x20 : Int) (w21 : World), I17 n18 x20 w21 →
 Br (decide (x20 > 0))
 (bA s10.a (IntKind.wrap .i64 (x20 - 1)) s10.n ∧ aK (ep (ab s10.a (((IntKind.wrap .i64 (x20 - 1)) : Int).toNat * 4))) (∃ (x23 : Int), ld w21 (ab (ab s10.a (((IntKind.wrap .i64 (x20 - 1)) : Int).toNat * 4)) 0) = some (.int .i64 x23) ∧
 Br (decide (x23 > a2))
 (∃ n22, n22 < n18 ∧ aT [x8, x9, s10] ∧ aT [a1_0, a1_1, a1_2] ∧ aT [(0:Int), (0:Int), .slice none 0 0] ∧ aT [x8, x9, s10] ∧ I17 n22 ((IntKind.wrap .i64 (x20 - 1))) w21)
 ((0 : Int) ≤ x20 ∧ x20 ≤ ((s10.c : Nat) : Int) ∧ ∃ l24 : List Value, Rd w21 (ai s10.a (0) (s10.c) 4) l24 ∧ au 32 4 w21 ⟨none, 0, 0⟩ ((x20 : Int).toNat - 0) l24 ∧ ∀ (s25 : Sl) (w26 : World), aq 79 4 w21 ⟨none, 0, 0⟩ ((x20 : Int).toNat - 0) l24 s25 w26 → Kp w w21 w26 ∧ Kp w0 w21 w26 ∧ Kp w1 w21 w26 ∧ Kp w7 w21 w26 ∧
 ∀ w27 : World, w27 = w26.alloc (.cells #[a2, a1_0, a1_1, a1_2] 79) →
 au 32 4 w27 s25 1 [a2, a1_0, a1_1, a1_2] ∧ ∀ (s28 : Sl) (w29 : World), aq 79 4 w27 s25 1 [a2, a1_0, a1_1, a1_2] s28 w29 → Kp w w27 w29 ∧ Kp w0 w27 w29 ∧ Kp w1 w27 w29 ∧ Kp w7 w27 w29 ∧ Kp w26 w27 w29 ∧
 (0 : Int) ≤ x20 ∧ x20 ≤ ((s10.n : Nat) : Int) ∧ ∃ l30 : List Value, Rd w29 (ai s10.a ((x20 : Int).toNat) (s10.c) 4) l30 ∧ au 32 4 w29 s28 (s10.n - (x20 : Int).toNat) l30 ∧ ∀ (s31 : Sl) (w32 : World), aq 79 4 w29 s28 (s10.n - (x20 : Int).toNat) l30 s31 w32 → Kp w w29 w32 ∧ Kp w0 w29 w32 ∧ Kp w1 w29 w32 ∧ Kp w7 w29 w32 ∧ Kp w26 w29 w32 ∧
 ∀ w33 : World, w33 = w32.setRow w #[x8, x9, s31] →
 ∀ w34 : World, w34 = w33.setRow w1 #[x8, x9, s31] →
 R (.returned (.tuple #[.agg #[x8, x9, s31], .bool true])) w34)))
 ((0 : Int) ≤ x20 ∧ x20 ≤ ((s10.c : Nat) : Int) ∧ ∃ l35 : List Value, Rd w21 (ai s10.a (0) (s10.c) 4) l35 ∧ au 32 4 w21 ⟨none, 0, 0⟩ ((x20 : Int).toNat - 0) l35 ∧ ∀ (s36 : Sl) (w37 : World), aq 79 4 w21 ⟨none, 0, 0⟩ ((x20 : Int).toNat - 0) l35 s36 w37 → Kp w w21 w37 ∧ Kp w0 w21 w37 ∧ Kp w1 w21 w37 ∧ Kp w7 w21 w37 ∧
 ∀ w38 : World, w38 = w37.alloc (.cells #[a2, a1_0, a1_1, a1_2] 79) →
 au 32 4 w38 s36 1 [a2, a1_0, a1_1, a1_2] ∧ ∀ (s39 : Sl) (w40 : World), aq 79 4 w38 s36 1 [a2, a1_0, a1_1, a1_2] s39 w40 → Kp w w38 w40 ∧ Kp w0 w38 w40 ∧ Kp w1 w38 w40 ∧ Kp w7 w38 w40 ∧ Kp w37 w38 w40 ∧
 (0 : Int) ≤ x20 ∧ x20 ≤ ((s10.n : Nat) : Int) ∧ ∃ l41 : List Value, Rd w40 (ai s10.a ((x20 : Int).toNat) (s10.c) 4) l41 ∧ au 32 4 w40 s39 (s10.n - (x20 : Int).toNat) l41 ∧ ∀ (s42 : Sl) (w43 : World), aq 79 4 w40 s39 (s10.n - (x20 : Int).toNat) l41 s42 w43 → Kp w w40 w43 ∧ Kp w0 w40 w43 ∧ Kp w1 w40 w43 ∧ Kp w7 w40 w43 ∧ Kp w37 w40 w43 ∧
 ∀ w44 : World, w44 = w43.setRow w #[x8, x9, s42] →
 ∀ w45 : World, w45 = w44.setRow w1 #[x8, x9, s42] →
 R (.returned (.tuple #[.agg #[x8, x9, s42], .bool true])) w45)))
 (∃ I46 : Nat → Int → World → Prop,
 (∃ n47, aT [x8, x9, s10] ∧ aT [a1_0, a1_1, a1_2] ∧ aT [(0:Int), (0:Int), .slice none 0 0] ∧ aT [x8, x9, s10] ∧ I46 n47 (((s10.n : Nat) : Int)) w14) ∧
 ∀ (n47 : Nat) (us48 : Nat → Value) (x49 : Int) (w50 : World), I46 n47 x49 w50 →
 Br (decide (x49 > 0))
 (bA s10.a (IntKind.wrap .i64 (x49 - 1)) s10.n ∧ aK (ep (ab s10.a (((IntKind.wrap .i64 (x49 - 1)) : Int).toNat * 4))) (∃ (x52 : Int), ld w50 (ab (ab s10.a (((IntKind.wrap .i64 (x49 - 1)) : Int).toNat * 4)) 0) = some (.int .i64 x52) ∧
 Br (decide (x52 > a2))
 (∃ n51, n51 < n47 ∧ aT [x8, x9, s10] ∧ aT [a1_0, a1_1, a1_2] ∧ aT [(0:Int), (0:Int), .slice none 0 0] ∧ aT [x8, x9, s10] ∧ I46 n51 ((IntKind.wrap .i64 (x49 - 1))) w50)
 ((0 : Int) ≤ x49 ∧ x49 ≤ ((s10.c : Nat) : Int) ∧ ∃ l53 : List Value, Rd w50 (ai s10.a (0) (s10.c) 4) l53 ∧ au 32 4 w50 ⟨none, 0, 0⟩ ((x49 : Int).toNat - 0) l53 ∧ ∀ (s54 : Sl) (w55 : World), aq 79 4 w50 ⟨none, 0, 0⟩ ((x49 : Int).toNat - 0) l53 s54 w55 → Kp w w50 w55 ∧ Kp w0 w50 w55 ∧ Kp w1 w50 w55 ∧ Kp w7 w50 w55 ∧
 ∀ w56 : World, w56 = w55.alloc (.cells #[a2, a1_0, a1_1, a1_2] 79) →
 au 32 4 w56 s54 1 [a2, a1_0, a1_1, a1_2] ∧ ∀ (s57 : Sl) (w58 : World), aq 79 4 w56 s54 1 [a2, a1_0, a1_1, a1_2] s57 w58 → Kp w w56 w58 ∧ Kp w0 w56 w58 ∧ Kp w1 w56 w58 ∧ Kp w7 w56 w58 ∧ Kp w55 w56 w58 ∧
 (0 : Int) ≤ x49 ∧ x49 ≤ ((s10.n : Nat) : Int) ∧ ∃ l59 : List Value, Rd w58 (ai s10.a ((x49 : Int).toNat) (s10.c) 4) l59 ∧ au 32 4 w58 s57 (s10.n - (x49 : Int).toNat) l59 ∧ ∀ (s60 : Sl) (w61 : World), aq 79 4 w58 s57 (s10.n - (x49 : Int).toNat) l59 s60 w61 → Kp w w58 w61 ∧ Kp w0 w58 w61 ∧ Kp w1 w58 w61 ∧ Kp w7 w58 w61 ∧ Kp w55 w58 w61 ∧
 ∀ w62 : World, w62 = w61.setRow w #[x8, x9, s60] →
 ∀ w63 : World, w63 = w62.setRow w1 #[x8, x9, s60] →
 R (.returned (.tuple #[.agg #[x8, x9, s60], .bool true])) w63)))
 ((0 : Int) ≤ x49 ∧ x49 ≤ ((s10.c : Nat) : Int) ∧ ∃ l64 : List Value, Rd w50 (ai s10.a (0) (s10.c) 4) l64 ∧ au 32 4 w50 ⟨none, 0, 0⟩ ((x49 : Int).toNat - 0) l64 ∧ ∀ (s65 : Sl) (w66 : World), aq 79 4 w50 ⟨none, 0, 0⟩ ((x49 : Int).toNat - 0) l64 s65 w66 → Kp w w50 w66 ∧ Kp w0 w50 w66 ∧ Kp w1 w50 w66 ∧ Kp w7 w50 w66 ∧
 ∀ w67 : World, w67 = w66.alloc (.cells #[a2, a1_0, a1_1, a1_2] 79) →
 au 32 4 w67 s65 1 [a2, a1_0, a1_1, a1_2] ∧ ∀ (s68 : Sl) (w69 : World), aq 79 4 w67 s65 1 [a2, a1_0, a1_1, a1_2] s68 w69 → Kp w w67 w69 ∧ Kp w0 w67 w69 ∧ Kp w1 w67 w69 ∧ Kp w7 w67 w69 ∧ Kp w66 w67 w69 ∧
 (0 : Int) ≤ x49 ∧ x49 ≤ ((s10.n : Nat) : Int) ∧ ∃ l70 : List Value, Rd w69 (ai s10.a ((x49 : Int).toNat) (s10.c) 4) l70 ∧ au 32 4 w69 s68 (s10.n - (x49 : Int).toNat) l70 ∧ ∀ (s71 : Sl) (w72 : World), aq 79 4 w69 s68 (s10.n - (x49 : Int).toNat) l70 s71 w72 → Kp w w69 w72 ∧ Kp w0 w69 w72 ∧ Kp w1 w69 w72 ∧ Kp w7 w69 w72 ∧ Kp w66 w69 w72 ∧
 ∀ w73 : World, w73 = w72.setRow w #[x8, x9, s71] →
 ∀ w74 : World, w74 = w73.setRow w1 #[x8, x9, s71] →
 R (.returned (.tuple #[.agg #[x8, x9, s71], .bool true])) w74))))))
 (Br (decide (x4 < 0))
 (Br (decide ((((a0_2.n : Nat) : Int) : Int) ≥ a0_0))
 (∀ w75 : World, w75 = w3.setRow w #[a0_0, (IntKind.wrap .i64 (a0_1 + 1)), a0_2] →
 ∀ w76 : World, w76 = w75.setRow w1 #[a0_0, (IntKind.wrap .i64 (a0_1 + 1)), a0_2] →
 R (.returned (.tuple #[.agg #[a0_0, (IntKind.wrap .i64 (a0_1 + 1)), a0_2], .bool false])) w76)
 (∃ I77 : Nat → Int → World → Prop,
 (∃ n78, aT [a0_0, a0_1, a0_2] ∧ aT [a1_0, a1_1, a1_2] ∧ aT [(0:Int), (0:Int), .slice none 0 0] ∧ I77 n78 (((a0_2.n : Nat) : Int)) w3) ∧
 ∀ (n78 : Nat) (us79 : Nat → Value) (x80 : Int) (w81 : World), I77 n78 x80 w81 →
 Br (decide (x80 > 0))
 (bA a0_2.a (IntKind.wrap .i64 (x80 - 1)) a0_2.n ∧ aK (ep (ab a0_2.a (((IntKind.wrap .i64 (x80 - 1)) : Int).toNat * 4))) (∃ (x83 : Int), ld w81 (ab (ab a0_2.a (((IntKind.wrap .i64 (x80 - 1)) : Int).toNat * 4)) 0) = some (.int .i64 x83) ∧
 Br (decide (x83 > a2))
 (∃ n82, n82 < n78 ∧ aT [a0_0, a0_1, a0_2] ∧ aT [a1_0, a1_1, a1_2] ∧ aT [(0:Int), (0:Int), .slice none 0 0] ∧ I77 n82 ((IntKind.wrap .i64 (x80 - 1))) w81)
 ((0 : Int) ≤ x80 ∧ x80 ≤ ((a0_2.c : Nat) : Int) ∧ ∃ l84 : List Value, Rd w81 (ai a0_2.a (0) (a0_2.c) 4) l84 ∧ au 32 4 w81 ⟨none, 0, 0⟩ ((x80 : Int).toNat - 0) l84 ∧ ∀ (s85 : Sl) (w86 : World), aq 79 4 w81 ⟨none, 0, 0⟩ ((x80 : Int).toNat - 0) l84 s85 w86 → Kp w w81 w86 ∧ Kp w0 w81 w86 ∧ Kp w1 w81 w86 ∧
 ∀ w87 : World, w87 = w86.alloc (.cells #[a2, a1_0, a1_1, a1_2] 79) →
 au 32 4 w87 s85 1 [a2, a1_0, a1_1, a1_2] ∧ ∀ (s88 : Sl) (w89 : World), aq 79 4 w87 s85 1 [a2, a1_0, a1_1, a1_2] s88 w89 → Kp w w87 w89 ∧ Kp w0 w87 w89 ∧ Kp w1 w87 w89 ∧ Kp w86 w87 w89 ∧
 (0 : Int) ≤ x80 ∧ x80 ≤ ((a0_2.n : Nat) : Int) ∧ ∃ l90 : List Value, Rd w89 (ai a0_2.a ((x80 : Int).toNat) (a0_2.c) 4) l90 ∧ au 32 4 w89 s88 (a0_2.n - (x80 : Int).toNat) l90 ∧ ∀ (s91 : Sl) (w92 : World), aq 79 4 w89 s88 (a0_2.n - (x80 : Int).toNat) l90 s91 w92 → Kp w w89 w92 ∧ Kp w0 w89 w92 ∧ Kp w1 w89 w92 ∧ Kp w86 w89 w92 ∧
 ∀ w93 : World, w93 = w92.setRow w #[a0_0, a0_1, s91] →
 ∀ w94 : World, w94 = w93.setRow w1 #[a0_0, a0_1, s91] →
 R (.returned (.tuple #[.agg #[a0_0, a0_1, s91], .bool true])) w94)))
 ((0 : Int) ≤ x80 ∧ x80 ≤ ((a0_2.c : Nat) : Int) ∧ ∃ l95 : List Value, Rd w81 (ai a0_2.a (0) (a0_2.c) 4) l95 ∧ au 32 4 w81 ⟨none, 0, 0⟩ ((x80 : Int).toNat - 0) l95 ∧ ∀ (s96 : Sl) (w97 : World), aq 79 4 w81 ⟨none, 0, 0⟩ ((x80 : Int).toNat - 0) l95 s96 w97 → Kp w w81 w97 ∧ Kp w0 w81 w97 ∧ Kp w1 w81 w97 ∧
 ∀ w98 : World, w98 = w97.alloc (.cells #[a2, a1_0, a1_1, a1_2] 79) →
 au 32 4 w98 s96 1 [a2, a1_0, a1_1, a1_2] ∧ ∀ (s99 : Sl) (w100 : World), aq 79 4 w98 s96 1 [a2, a1_0, a1_1, a1_2] s99 w100 → Kp w w98 w100 ∧ Kp w0 w98 w100 ∧ Kp w1 w98 w100 ∧ Kp w97 w98 w100 ∧
 (0 : Int) ≤ x80 ∧ x80 ≤ ((a0_2.n : Nat) : Int) ∧ ∃ l101 : List Value, Rd w100 (ai a0_2.a ((x80 : Int).toNat) (a0_2.c) 4) l101 ∧ au 32 4 w100 s99 (a0_2.n - (x80 : Int).toNat) l101 ∧ ∀ (s102 : Sl) (w103 : World), aq 79 4 w100 s99 (a0_2.n - (x80 : Int).toNat) l101 s102 w103 → Kp w w100 w103 ∧ Kp w0 w100 w103 ∧ Kp w1 w100 w103 ∧ Kp w97 w100 w103 ∧
 ∀ w104 : World, w104 = w103.setRow w #[a0_0, a0_1, s102] →
 ∀ w105 : World, w105 = w104.setRow w1 #[a0_0, a0_1, s102] →
 R (.returned (.tuple #[.agg #[a0_0, a0_1, s102], .bool true])) w105)))
 (∃ I106 : Nat → Int → World → Prop,
 (∃ n107, aT [a0_0, a0_1, a0_2] ∧ aT [a1_0, a1_1, a1_2] ∧ aT [(0:Int), (0:Int), .slice none 0 0] ∧ I106 n107 (((a0_2.n : Nat) : Int)) w3) ∧
 ∀ (n107 : Nat) (us108 : Nat → Value) (x109 : Int) (w110 : World), I106 n107 x109 w110 →
 Br (decide (x109 > 0))
 (bA a0_2.a (IntKind.wrap .i64 (x109 - 1)) a0_2.n ∧ aK (ep (ab a0_2.a (((IntKind.wrap .i64 (x109 - 1)) : Int).toNat * 4))) (∃ (x112 : Int), ld w110 (ab (ab a0_2.a (((IntKind.wrap .i64 (x109 - 1)) : Int).toNat * 4)) 0) = some (.int .i64 x112) ∧
 Br (decide (x112 > a2))
 (∃ n111, n111 < n107 ∧ aT [a0_0, a0_1, a0_2] ∧ aT [a1_0, a1_1, a1_2] ∧ aT [(0:Int), (0:Int), .slice none 0 0] ∧ I106 n111 ((IntKind.wrap .i64 (x109 - 1))) w110)
 ((0 : Int) ≤ x109 ∧ x109 ≤ ((a0_2.c : Nat) : Int) ∧ ∃ l113 : List Value, Rd w110 (ai a0_2.a (0) (a0_2.c) 4) l113 ∧ au 32 4 w110 ⟨none, 0, 0⟩ ((x109 : Int).toNat - 0) l113 ∧ ∀ (s114 : Sl) (w115 : World), aq 79 4 w110 ⟨none, 0, 0⟩ ((x109 : Int).toNat - 0) l113 s114 w115 → Kp w w110 w115 ∧ Kp w0 w110 w115 ∧ Kp w1 w110 w115 ∧
 ∀ w116 : World, w116 = w115.alloc (.cells #[a2, a1_0, a1_1, a1_2] 79) →
 au 32 4 w116 s114 1 [a2, a1_0, a1_1, a1_2] ∧ ∀ (s117 : Sl) (w118 : World), aq 79 4 w116 s114 1 [a2, a1_0, a1_1, a1_2] s117 w118 → Kp w w116 w118 ∧ Kp w0 w116 w118 ∧ Kp w1 w116 w118 ∧ Kp w115 w116 w118 ∧
 (0 : Int) ≤ x109 ∧ x109 ≤ ((a0_2.n : Nat) : Int) ∧ ∃ l119 : List Value, Rd w118 (ai a0_2.a ((x109 : Int).toNat) (a0_2.c) 4) l119 ∧ au 32 4 w118 s117 (a0_2.n - (x109 : Int).toNat) l119 ∧ ∀ (s120 : Sl) (w121 : World), aq 79 4 w118 s117 (a0_2.n - (x109 : Int).toNat) l119 s120 w121 → Kp w w118 w121 ∧ Kp w0 w118 w121 ∧ Kp w1 w118 w121 ∧ Kp w115 w118 w121 ∧
 ∀ w122 : World, w122 = w121.setRow w #[a0_0, a0_1, s120] →
 ∀ w123 : World, w123 = w122.setRow w1 #[a0_0, a0_1, s120] →
 R (.returned (.tuple #[.agg #[a0_0, a0_1, s120], .bool true])) w123)))
 ((0 : Int) ≤ x109 ∧ x109 ≤ ((a0_2.c : Nat) : Int) ∧ ∃ l124 : List Value, Rd w110 (ai a0_2.a (0) (a0_2.c) 4) l124 ∧ au 32 4 w110 ⟨none, 0, 0⟩ ((x109 : Int).toNat - 0) l124 ∧ ∀ (s125 : Sl) (w126 : World), aq 79 4 w110 ⟨none, 0, 0⟩ ((x109 : Int).toNat - 0) l124 s125 w126 → Kp w w110 w126 ∧ Kp w0 w110 w126 ∧ Kp w1 w110 w126 ∧
 ∀ w127 : World, w127 = w126.alloc (.cells #[a2, a1_0, a1_1, a1_2] 79) →
 au 32 4 w127 s125 1 [a2, a1_0, a1_1, a1_2] ∧ ∀ (s128 : Sl) (w129 : World), aq 79 4 w127 s125 1 [a2, a1_0, a1_1, a1_2] s128 w129 → Kp w w127 w129 ∧ Kp w0 w127 w129 ∧ Kp w1 w127 w129 ∧ Kp w126 w127 w129 ∧
 (0 : Int) ≤ x109 ∧ x109 ≤ ((a0_2.n : Nat) : Int) ∧ ∃ l130 : List Value, Rd w129 (ai a0_2.a ((x109 : Int).toNat) (a0_2.c) 4) l130 ∧ au 32 4 w129 s128 (a0_2.n - (x109 : Int).toNat) l130 ∧ ∀ (s131 : Sl) (w132 : World), aq 79 4 w129 s128 (a0_2.n - (x109 : Int).toNat) l130 s131 w132 → Kp w w129 w132 ∧ Kp w0 w129 w132 ∧ Kp w1 w129 w132 ∧ Kp w126 w129 w132 ∧
 ∀ w133 : World, w133 = w132.setRow w #[a0_0, a0_1, s131] →
 ∀ w134 : World, w134 = w133.setRow w1 #[a0_0, a0_1, s131] →
 R (.returned (.tuple #[.agg #[a0_0, a0_1, s131], .bool true])) w134))))
theorem uA.vc {a0_0 a0_1 a0_2 a1_0 a1_1 a1_2 a2 w} (h : uA.pre a0_0 a0_1 a0_2 a1_0 a1_1 a1_2 a2 w R) : Calls Tryz.prog kz #[.agg #[a0_0, a0_1, a0_2], .agg #[a1_0, a1_1, a1_2], a2] w R :=
 cq ⟨[(11, ⟨[(11, .int .i64)], [], []⟩), (11, ⟨[(11, .int .i64)], [], []⟩), (11, ⟨[(11, .int .i64)], [], []⟩), (11, ⟨[(11, .int .i64)], [], []⟩)], [], []⟩ Tryz.func58 h
def ru.pre (a0_0 a0_1 : Int) (a0_2 : Sl) (a1_0 a1_1 a1_2 : Int) (w : World) (R : Ending → World → Prop) : Prop :=
 ∀ w0 : World, w0 = w.alloc (.cells #[a0_0, a0_1, a0_2] 36) →
 ∀ w1 : World, w1 = w0.alloc (.cells #[a1_0, a1_1, a1_2] 23) →
 ∃ I2 : Nat → Int → World → Prop,
 (∃ n3, aT [a0_0, a0_1, a0_2] ∧ aT [a1_0, a1_1, a1_2] ∧ I2 n3 (0) w1) ∧
 ∀ (n3 : Nat) (us4 : Nat → Value) (x5 : Int) (w6 : World), I2 n3 x5 w6 →
 Br (decide (x5 < ((a0_2.n : Nat) : Int)))
 (bA a0_2.a x5 a0_2.n ∧ aK (ep (ab a0_2.a ((x5 : Int).toNat * 4))) (∃ (x8 x9 x10 : Int), ah w6.drew (ab (ab a0_2.a ((x5 : Int).toNat * 4)) 1) 0 [x8, x9, x10] ∧
 Br ((x8 == a1_0) && ((x9 == a1_1) && (x10 == a1_2)))
 (R (.returned x5) w6.drew)
 (∃ n7, n7 < n3 ∧ aT [a0_0, a0_1, a0_2] ∧ aT [a1_0, a1_1, a1_2] ∧ I2 n7 ((IntKind.wrap .i64 (x5 + 1))) w6.drew)))
 (R (.returned (.int .i64 (-1))) w6)
theorem ru.vc {a0_0 a0_1 a0_2 a1_0 a1_1 a1_2 w} (h : ru.pre a0_0 a0_1 a0_2 a1_0 a1_1 a1_2 w R) : Calls Tryz.prog jl #[.agg #[a0_0, a0_1, a0_2], .agg #[a1_0, a1_1, a1_2]] w R :=
 cq ⟨[(2, ⟨[(5, .int .i64)], [], []⟩)], [], []⟩ Tryz.func102 h
def q8.pre (a0_0 a0_1 : Int) (a0_2 : Sl) (a1_0 a1_1 a1_2 : Int) (w : World) (R : Ending → World → Prop) : Prop :=
 ∀ w0 : World, w0 = w.alloc (.cells #[a0_0, a0_1, a0_2] 36) →
 ∀ w1 : World, w1 = w0.alloc (.cells #[a1_0, a1_1, a1_2] 23) →
 ∀ w2 : World, w2 = w1.alloc (.cells #[(0:Int), (0:Int), .slice none 0 0] 36) →
 Calls Tryz.prog jl #[.agg #[a0_0, a0_1, a0_2], .agg #[a1_0, a1_1, a1_2]] w2 (fun e w3 => ∃ (x4 : Int), e = .returned x4 ∧ Kp w w2 w3 ∧ Kp w0 w2 w3 ∧ Kp w1 w2 w3 ∧
 Br (decide (x4 < 0))
 (∀ w5 : World, w5 = w3.setRow w1 #[a0_0, a0_1, a0_2] →
 R (.returned (.tuple #[.agg #[a0_0, a0_1, a0_2], .bool false])) w5)
 ((0 : Int) ≤ x4 ∧ x4 ≤ ((a0_2.c : Nat) : Int) ∧ ∃ l6 : List Value, Rd w3 (ai a0_2.a (0) (a0_2.c) 4) l6 ∧ au 32 4 w3 ⟨none, 0, 0⟩ ((x4 : Int).toNat - 0) l6 ∧ ∀ (s7 : Sl) (w8 : World), aq 79 4 w3 ⟨none, 0, 0⟩ ((x4 : Int).toNat - 0) l6 s7 w8 → Kp w w3 w8 ∧ Kp w0 w3 w8 ∧ Kp w1 w3 w8 ∧
 (0 : Int) ≤ (IntKind.wrap .i64 (x4 + 1)) ∧ (IntKind.wrap .i64 (x4 + 1)) ≤ ((a0_2.n : Nat) : Int) ∧ ∃ l9 : List Value, Rd w8 (ai a0_2.a (((IntKind.wrap .i64 (x4 + 1)) : Int).toNat) (a0_2.c) 4) l9 ∧ au 32 4 w8 s7 (a0_2.n - ((IntKind.wrap .i64 (x4 + 1)) : Int).toNat) l9 ∧ ∀ (s10 : Sl) (w11 : World), aq 79 4 w8 s7 (a0_2.n - ((IntKind.wrap .i64 (x4 + 1)) : Int).toNat) l9 s10 w11 → Kp w w8 w11 ∧ Kp w0 w8 w11 ∧ Kp w1 w8 w11 ∧
 ∀ w12 : World, w12 = w11.setRow w #[a0_0, a0_1, s10] →
 ∀ w13 : World, w13 = w12.setRow w1 #[a0_0, a0_1, s10] →
 R (.returned (.tuple #[.agg #[a0_0, a0_1, s10], .bool true])) w13))
theorem q8.vc {a0_0 a0_1 a0_2 a1_0 a1_1 a1_2 w} (h : q8.pre a0_0 a0_1 a0_2 a1_0 a1_1 a1_2 w R) : Calls Tryz.prog mG #[.agg #[a0_0, a0_1, a0_2], .agg #[a1_0, a1_1, a1_2]] w R :=
 cq ⟨[], [], []⟩ Tryz.func103 h
def pk.pre (a0 : Int) (w : World) (R : Ending → World → Prop) : Prop :=
 Calls Tryz.prog 44 #[a0, (8:Int)] w (fun e w0 => ∃ (x1 : Int), e = .returned x1 ∧
 Br (x1 == 7)
 (Calls Tryz.prog 53 #[a0] w0 (fun e w2 => ∃ (x3 : Int), e = .returned x3 ∧
 R (.returned x3) w2))
 (∀ w4 : World, w4 = w0.alloc (.cells #[(3:Int), (3:Int), (8:Int), (8:Int), (1:Int), (0:Int), (4:Int)] 3) →
 bA (some ⟨w0, 0, none⟩) x1 7 ∧ ∃ (x5 : Int), ld w4 (ab (some ⟨w0, 0, none⟩) ((x1 : Int).toNat * 1)) = some (.int .i64 x5) ∧
 R (.returned x5) w4))
theorem pk.vc {a0 w} (h : pk.pre a0 w R) : Calls Tryz.prog qk #[a0] w R :=
 cq ⟨[], [], []⟩ Tryz.func25 h
def iO.pre (a0 a1 : Sl) (w : World) (R : Ending → World → Prop) : Prop :=
 Br ((((a0.n : Nat) : Int) : Int) != ((a1.n : Nat) : Int))
 (R (.returned (.bool false)) w)
 (∃ I0 : Nat → Int → World → Prop,
 (∃ n1, I0 n1 (0) w) ∧
 ∀ (n1 : Nat) (us2 : Nat → Value) (x3 : Int) (w4 : World), I0 n1 x3 w4 →
 Br (decide (x3 < ((a0.n : Nat) : Int)))
 (bA a0.a x3 a0.n ∧ ∃ (x6 x7 x8 x9 : Int), ah w4.drew (ab a0.a ((x3 : Int).toNat * 4)) 0 [x6, x7, x8, x9] ∧
 bA a1.a x3 a1.n ∧ ∃ (x10 x11 x12 x13 : Int), ah w4.drew (ab a1.a ((x3 : Int).toNat * 4)) 0 [x10, x11, x12, x13] ∧
 Br (!((x6 == x10) && ((x7 == x11) && ((x8 == x12) && (x9 == x13)))))
 (R (.returned (.bool false)) w4.drew)
 (∃ n5, n5 < n1 ∧ I0 n5 ((IntKind.wrap .i64 (x3 + 1))) w4.drew))
 (R (.returned (.bool true)) w4))
theorem iO.vc {a0 a1 w} (h : iO.pre a0 a1 w R) : Calls Tryz.prog kC #[a0, a1] w R :=
 cq ⟨[(4, ⟨[(5, .int .i64)], [], []⟩)], [], []⟩ Tryz.func30 h
def pn.pre (a0 : Sl) (w : World) (R : Ending → World → Prop) : Prop :=
 ∃ I0 : Nat → Int → Sl → World → Prop,
 (∃ n1, I0 n1 (0) ⟨none, 0, 0⟩ w) ∧
 ∀ (n1 : Nat) (us2 : Nat → Value) (x3 : Int) (s4 : Sl) (w5 : World), I0 n1 x3 s4 w5 →
 Br (decide (x3 < ((a0.n : Nat) : Int)))
 (bA a0.a x3 a0.n ∧ aK (ep (ab a0.a ((x3 : Int).toNat * 4))) (∃ (x7 : Int), ld w5.drew (ab (ab a0.a ((x3 : Int).toNat * 4)) 0) = some (.int .i64 x7) ∧
 bA a0.a x3 a0.n ∧ aK (ep (ab a0.a ((x3 : Int).toNat * 4))) (∃ (x8 x9 x10 : Int), ah w5.drew (ab (ab a0.a ((x3 : Int).toNat * 4)) 1) 0 [x8, x9, x10] ∧
 ∀ w11 : World, w11 = w5.drew.alloc (.cells #[x7, x8, x9, x10] 79) →
 au 32 4 w11 s4 1 [x7, x8, x9, x10] ∧ ∀ (s12 : Sl) (w13 : World), aq 79 4 w11 s4 1 [x7, x8, x9, x10] s12 w13 → w13.heap[w5.drew.heap.size]? = w11.heap[w5.drew.heap.size]? ∧
 ∃ n6, n6 < n1 ∧ I0 n6 ((IntKind.wrap .i64 (x3 + 1))) s12 w13)))
 (R (.returned s4) w5)
theorem pn.vc {a0 w} (h : pn.pre a0 w R) : Calls Tryz.prog ql #[a0] w R :=
 cq ⟨[(3, ⟨[(4, .int .i64), (3, .slice)], [], []⟩)], [], []⟩ Tryz.func31 h
def iP.pre (a0 : Addr) (a1 : Int) (a2 : Sl) (w : World) (R : Ending → World → Prop) : Prop :=
 (true = true ∧ Wr w (ab (some a0) 3) 1) ∧ (∀ w0 : World, w0 = aB w (ab (some a0) 3) [.int .i64 (if 1099511627776 < (if 0 > a1 then 0 else a1) then 1099511627776 else (if 0 > a1 then 0 else a1))] →
 Calls Tryz.prog 60 #[(4096:Int)] w0 (fun e w1 => ∃ (p2 : Option Addr), e = .returned (.pointer p2) ∧
 (true = true ∧ Wr w1 (ab (some a0) 0) 1) ∧ (∀ w3 : World, w3 = aB w1 (ab (some a0) 0) [.pointer p2] →
 ∃ (p4 : Option Addr), ld w3 (ab (some a0) 0) = some (.pointer p4) ∧
 Calls Tryz.prog 61 #[.pointer p4, a2] w3 (fun e w5 => ∃ (x6 : Int), e = .returned x6 ∧
 R (.returned x6) w5))))
theorem iP.vc {a0 a1 a2 w} (h : iP.pre a0 a1 a2 w R) : Calls Tryz.prog kD #[.pointer (some a0), a1, a2] w R :=
 cq ⟨[], [], []⟩ Tryz.func28 h
end Go.Proofs.YtalpkjfpmdpbiaaGreatDoor
