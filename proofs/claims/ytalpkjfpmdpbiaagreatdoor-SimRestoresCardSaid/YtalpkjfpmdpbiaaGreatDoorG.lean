import Derived.Test.YtalpkjfpmdpbiaaGreatDoorChecked
import Derived.KernelRfl
import Derived.Test.YtalpkjfpmdpbiaaGreatDoorLib
set_option linter.all false
namespace Go.Proofs.YtalpkjfpmdpbiaaGreatDoor
open Go Go.Vc Go.RowKit Go.Proofs
set_option maxRecDepth 100000
set_option maxHeartbeats 8000000
variable{R:Ending->World->Prop}
set_option linter.unusedVariables false
theorem Tryz.Li : vt Tryz.prog := JY (by kernel_rfl)
theorem Tryz.mixed:Tryz.prog.follows .mixedOrders=true:=by kernel_rfl
theorem cq {pre : Prop} {f : FuncId} {fn : Func} (an : JZ) {args : List Value} {w : World} {R : Ending → World → Prop} (hf : Tryz.prog.funcs[f]? = some fn) (h : pre) (k : pre = Iy Tryz.prog an fn args w R := by kernel_rfl) : Calls Tryz.prog f args.toArray w R :=
 Bp (an := an) Tryz.Li Tryz.mixed hf h k
abbrev ja:FuncId:=104
abbrev dT:FuncId:=105
abbrev dD:FuncId:=106
abbrev eX:FuncId:=107
abbrev dE:FuncId:=108
abbrev om:FuncId:=111
abbrev bO:FuncId:=113
abbrev oo:FuncId:=114
abbrev bW:FuncId:=115
abbrev ou:FuncId:=116
abbrev ov:FuncId:=117
abbrev lE:FuncId:=118
abbrev ow:FuncId:=119
abbrev jy:FuncId:=11
abbrev ox:FuncId:=120
abbrev kc:FuncId:=121
abbrev ml:FuncId:=126
abbrev kT:FuncId:=127
abbrev gl:FuncId:=128
abbrev cN:FuncId:=129
abbrev tD:FuncId:=130
abbrev ke:FuncId:=134
abbrev c9:FuncId:=135
abbrev kF:FuncId:=136
abbrev dw:FuncId:=137
abbrev pW:FuncId:=140
abbrev nN:FuncId:=144
abbrev kJ:FuncId:=145
abbrev hM:FuncId:=146
abbrev uW:FuncId:=147
abbrev gm:FuncId:=148
abbrev mn:FuncId:=149
abbrev qI:FuncId:=150
abbrev eB:FuncId:=152
abbrev qJ:FuncId:=157
abbrev m8:FuncId:=158
abbrev rX:FuncId:=159
abbrev kU:FuncId:=160
abbrev mo:FuncId:=161
abbrev a6:FuncId:=162
abbrev oy:FuncId:=163
abbrev tE:FuncId:=164
abbrev fE:FuncId:=165
abbrev fK:FuncId:=173
abbrev lX:FuncId:=174
abbrev kN:FuncId:=175
abbrev dP:FuncId:=176
abbrev eP:FuncId:=184
abbrev oz:FuncId:=185
abbrev pX:FuncId:=187
abbrev nV:FuncId:=189
abbrev kV:FuncId:=190
abbrev jH:FuncId:=191
abbrev oA:FuncId:=192
abbrev mq:FuncId:=196
abbrev jI:FuncId:=19
abbrev iz:FuncId:=202
abbrev cM:FuncId:=203
abbrev qq:FuncId:=204
abbrev yu:FuncId:=206
abbrev nQ:FuncId:=207
abbrev mc:FuncId:=208
abbrev wB:FuncId:=209
abbrev dU:FuncId:=210
abbrev jB:FuncId:=219
abbrev kL:FuncId:=224
abbrev jJ:FuncId:=225
abbrev oB:FuncId:=226
abbrev mr:FuncId:=227
abbrev oC:FuncId:=228
abbrev kW:FuncId:=234
abbrev fL:FuncId:=236
abbrev cR:FuncId:=238
abbrev qB:FuncId:=239
abbrev eh:FuncId:=241
abbrev fp:FuncId:=243
abbrev bE:FuncId:=24
abbrev iA:FuncId:=250
abbrev eH:FuncId:=253
abbrev fz:FuncId:=27
abbrev uK:FuncId:=35
abbrev iQ:FuncId:=37
abbrev da:FuncId:=38
abbrev bf:FuncId:=43
abbrev fm:FuncId:=44
abbrev kK:FuncId:=50
abbrev wJ:FuncId:=51
abbrev rY:FuncId:=53
abbrev dG:FuncId:=59
abbrev kf:FuncId:=67
abbrev mu:FuncId:=69
abbrev cn:FuncId:=70
abbrev cO:FuncId:=71
abbrev eZ:FuncId:=72
abbrev fc:FuncId:=73
abbrev mv:FuncId:=74
abbrev mw:FuncId:=75
abbrev wK:FuncId:=76
abbrev rZ:FuncId:=81
abbrev r6:FuncId:=82
abbrev eg:FuncId:=85
abbrev ei:FuncId:=86
abbrev iS:FuncId:=91
abbrev pY:FuncId:=94
abbrev bz:FuncId:=96
abbrev gR:FuncId:=97
def qt.pre (a0_0 a0_1 a0_2 : Int) (w : World) (R : Ending → World → Prop) : Prop :=
 ∀ w0 : World, w0 = w.alloc (.cells #[a0_0, a0_1, a0_2] 23) →
 Br (decide (a0_1 < 0))
 (R (.returned (.tuple #[(0:Int), .bool false])) w0)
 (Br (decide (a0_1 ≥ 32))
 (R (.returned (.tuple #[(0:Int), .bool false])) w0)
 (Calls Tryz.prog gm #[a0_2, (16:Int)] w0.drew (fun e w1 => ∃ (x2 : Int), e = .returned x2 ∧ Kp w w0.drew w1 ∧
 ah w1 (some ⟨w, 0, none⟩) 0 [a0_0] ∧ ah w1 (some ⟨w, 1, none⟩) 0 [a0_1] ∧ Calls Tryz.prog gm #[a0_0, (16:Int)] w1 (fun e w3 => ∃ (x4 : Int), e = .returned x4 ∧ Kp w w1 w3 ∧
 ah w3 (some ⟨w, 1, none⟩) 0 [a0_1] ∧ R (.returned (.tuple #[(IntKind.wrap .i64 ((IntKind.wrap .i64 ((IntKind.wrap .i64 ((IntKind.wrap .i64 (a0_1 * 16)) + x2)) * 16)) + x4)), .bool true])) w3))))
theorem qt.vc {a0_0 a0_1 a0_2 w} (h : qt.pre a0_0 a0_1 a0_2 w R) : Calls Tryz.prog ja #[.agg #[a0_0, a0_1, a0_2]] w R :=
 cq ⟨[], [], []⟩ Tryz.func104 h
def tF.pre (a0 : Int) (w : World) (R : Ending → World → Prop) : Prop :=
 Calls Tryz.prog mn #[a0] w (fun e w0 => ∃ (t1 : ByteArray), e = .returned (.string t1) ∧
 R (.returned (.bool (!pP t1 (ByteArray.mk #[])))) w0)
theorem tF.vc {a0 w} (h : tF.pre a0 w R) : Calls Tryz.prog dT #[a0] w R :=
 cq ⟨[], [], []⟩ Tryz.func105 h
def iB.pre (a0 : Addr) (a1_0 a1_1 a1_2 a2 : Int) (w : World) (R : Ending → World → Prop) : Prop :=
 ∀ w0 : World, w0 = w.alloc (.cells #[a1_0, a1_1, a1_2] 23) →
 ∃ (x1 x2 : Int), ah w0.drew (ab (some a0) 0) 0 [x1, x2] ∧
 Calls Tryz.prog cN #[.agg #[x1, x2], .agg #[a1_0, a1_1, a1_2]] w0.drew (fun e w3 => ∃ (x4 : Int) (b5 : Bool), e = .returned (.tuple #[x4, .bool b5]) ∧ Kp w w0.drew w3 ∧
 Br (!b5)
 (R (.returned (5:Int)) w3)
 (Calls Tryz.prog dT #[a2] w3 (fun e w6 => ∃ (b7 : Bool), e = .returned (.bool b7) ∧ Kp w w3 w6 ∧
 Br (!b7)
 (R (.returned (1:Int)) w6)
 (∃ (s8 : Sl), ld w6 (ab (some a0) 2) = some (.slice s8.a s8.n s8.c) ∧
 Calls Tryz.prog qI #[s8, x4, a2] w6 (fun e w9 => ∃ (s10 : Sl), e = .returned s10 ∧ Kp w w6 w9 ∧
 (true = true ∧ Wr w9 (ab (some a0) 2) 1) ∧ bK (ab (some a0) 2) ≠ some w.heap.size ∧ (∀ w11 : World, w11 = aB w9 (ab (some a0) 2) [s10] →
 R (.returned (0:Int)) w11))))))
theorem iB.vc {a0 a1_0 a1_1 a1_2 a2 w} (h : iB.pre a0 a1_0 a1_1 a1_2 a2 w R) : Calls Tryz.prog dD #[.pointer (some a0), .agg #[a1_0, a1_1, a1_2], a2] w R :=
 cq ⟨[], [], []⟩ Tryz.func106 h
def gp.pre (a0 a1 : Addr) (w : World) (R : Ending → World → Prop) : Prop :=
 ∃ (b0 : Bool), ld w (ab (some a1) 1) = some (.bool b0) ∧
 Br (!b0)
 (R (.returned (0:Int)) w)
 (∃ (p1 : Option Addr), ld w (ab (some a1) 0) = some (.pointer p1) ∧
 aK (ep p1) (aK (ep p1) (∃ (x2 x3 : Int), ah w (ab p1 0) 0 [x2, x3] ∧
 Calls Tryz.prog bW #[.agg #[x2, x3]] w (fun e w4 => ∃ (x5 x6 : Int), e = .returned (.agg #[x5, x6]) ∧
 Calls Tryz.prog mu #[.agg #[x5, x6]] w4 (fun e w7 => ∃ (x8 : Int) (b9 : Bool), e = .returned (.tuple #[x8, .bool b9]) ∧
 ∃ (p10 : Option Addr), ld w7.drew (ab (some a0) 0) = some (.pointer p10) ∧
 ∃ (p11 : Option Addr), ld w7.drew (ab (some a1) 0) = some (.pointer p11) ∧
 Calls Tryz.prog eB #[.pointer p11] w7.drew (fun e w12 => ∃ (s13 : Sl), e = .returned s13 ∧
 ah w12 (ab (some a0) 0) 0 [.pointer p10] ∧ Calls Tryz.prog 151 #[.pointer p10, x8, s13] w12 (fun e w14 => ∃ (x15 : Int), e = .returned x15 ∧
 (true = true ∧ Wr w14 (ab (some a1) 1) 1) ∧ (∀ w16 : World, w16 = aB w14 (ab (some a1) 1) [.bool (x15 != 0)] →
 R (.returned x15) w16))))))))
theorem gp.vc {a0 a1 w} (h : gp.pre a0 a1 w R) : Calls Tryz.prog eX #[.pointer (some a0), .pointer (some a1)] w R :=
 cq ⟨[], [], []⟩ Tryz.func107 h
def iC.pre (a0 : Addr) (a1 : Int) (w : World) (R : Ending → World → Prop) : Prop :=
 ∃ (s0 : Sl), ld w (ab (some a0) 3) = some (.slice s0.a s0.n s0.c) ∧
 bA s0.a a1 s0.n ∧ ∃ (p1 : Option Addr), ld w (ab s0.a ((a1 : Int).toNat * 1)) = some (.pointer p1) ∧
 ∃ (s2 : Sl), ld w.drew (ab (some a0) 3) = some (.slice s2.a s2.n s2.c) ∧
 (0 : Int) ≤ a1 ∧ a1 ≤ ((s2.c : Nat) : Int) ∧ (0 : Int) ≤ a1 ∧ a1 ≤ a1 ∧ ∃ (s3 : Sl), ld w.drew (ab (some a0) 3) = some (.slice s3.a s3.n s3.c) ∧
 (0 : Int) ≤ (IntKind.wrap .i64 (a1 + 1)) ∧ (IntKind.wrap .i64 (a1 + 1)) ≤ ((s3.n : Nat) : Int) ∧ ∃ l4 : List Value, Rd w.drew (ai s3.a (((IntKind.wrap .i64 (a1 + 1)) : Int).toNat) (s3.c) 1) l4 ∧ au 8 1 w.drew ⟨(ai s2.a (0) ((a1 : Int).toNat) 1), ((a1 : Int).toNat - 0), ((a1 : Int).toNat - 0)⟩ (s3.n - ((IntKind.wrap .i64 (a1 + 1)) : Int).toNat) l4 ∧ ∀ (s5 : Sl) (w6 : World), aq 129 1 w.drew ⟨(ai s2.a (0) ((a1 : Int).toNat) 1), ((a1 : Int).toNat - 0), ((a1 : Int).toNat - 0)⟩ (s3.n - ((IntKind.wrap .i64 (a1 + 1)) : Int).toNat) l4 s5 w6 →
 ah w6 (ab (some a0) 3) 0 [s3] ∧ ah w6 (ab (some a0) 3) 0 [s2] ∧ (true = true ∧ Wr w6 (ab (some a0) 3) 1) ∧ (∀ w7 : World, w7 = aB w6 (ab (some a0) 3) [s5] →
 R (.returned (.pointer p1)) w7)
theorem iC.vc {a0 a1 w} (h : iC.pre a0 a1 w R) : Calls Tryz.prog dE #[.pointer (some a0), a1] w R :=
 cq ⟨[], [], []⟩ Tryz.func108 h
def tG.pre (a0 : Int) (w : World) (R : Ending → World → Prop) : Prop :=
 Calls Tryz.prog qJ #[a0] w (fun e w0 => ∃ (p1 : Option Addr), e = .returned (.pointer p1) ∧
 ∀ w2 : World, w2 = w0.alloc (.cells #[.pointer p1] 224) →
 R (.returned (.pointer (some ⟨w0, 0, none⟩))) w2)
theorem tG.vc {a0 w} (h : tG.pre a0 w R) : Calls Tryz.prog om #[a0] w R :=
 cq ⟨[], [], []⟩ Tryz.func111 h
def dy.pre (a0 : Sl) (a1 : Value) (w : World) (R : Ending → World → Prop) : Prop :=
 ∃ I0 : Nat → Int → World → Prop,
 (∃ n1, I0 n1 (0) w) ∧
 ∀ (n1 : Nat) (us2 : Nat → Value) (x3 : Int) (w4 : World), I0 n1 x3 w4 →
 Br (decide (x3 < ((a0.n : Nat) : Int)))
 (bA a0.a x3 a0.n ∧ ∃ (p6 : Option Addr), ld w4 (ab a0.a ((x3 : Int).toNat * 1)) = some (.pointer p6) ∧
 br Tryz.prog a1 [.pointer p6] w4 (fun e w7 => ∃ (b8 : Bool), e = .returned (.bool b8) ∧
 Br b8
 (R (.returned x3) w7)
 (∃ n5, n5 < n1 ∧ I0 n5 ((IntKind.wrap .i64 (x3 + 1))) w7)))
 (R (.returned (.int .i64 (-1))) w4)
theorem dy.vc {a0 a1 w} (h : dy.pre a0 a1 w R) : Calls Tryz.prog bO #[a0, a1] w R :=
 cq ⟨[(2, ⟨[(8, .int .i64)], [], []⟩)], [], []⟩ Tryz.func113 h
def fe.pre (a0 c0 : Addr) (w : World) (R : Ending → World → Prop) : Prop :=
 ∃ (p0 : Option Addr), ld w.drew (ab (some a0) 0) = some (.pointer p0) ∧
 aK (ep p0) (aK (ep p0) (∃ (x1 x2 : Int), ah w.drew (ab p0 0) 0 [x1, x2] ∧
 ∃ (x3 x4 : Int), ah w.drew (some c0) 0 [x3, x4] ∧
 Calls Tryz.prog bW #[.agg #[x1, x2]] w.drew (fun e w5 => ∃ (x6 x7 : Int), e = .returned (.agg #[x6, x7]) ∧
 ah w5 (some c0) 0 [x3, x4] ∧ ah w5 (ab (some a0) 0) 0 [.pointer p0] ∧ R (.returned (.bool ((x6 == x3) && (x7 == x4)))) w5)))
theorem fe.vc {a0 c0 w} (h : fe.pre a0 c0 w R) : Calls Tryz.prog oo #[.pointer (some a0), .pointer (some c0)] w R :=
 cq ⟨[], [], []⟩ Tryz.func114 h
def fM.pre (a0_0 a0_1 : Int) (w : World) (R : Ending → World → Prop) : Prop :=
 ∀ w0 : World, w0 = w.alloc (.cells #[a0_0, a0_1] 181) →
 ∀ w1 : World, w1 = w0.alloc (.cells #[(0:Int), (0:Int)] 89) →
 ∀ w2 : World, w2 = w1.setRow w0 #[a0_0, a0_1] →
 R (.returned (.agg #[a0_0, a0_1])) w2
theorem fM.vc {a0_0 a0_1 w} (h : fM.pre a0_0 a0_1 w R) : Calls Tryz.prog bW #[.agg #[a0_0, a0_1]] w R :=
 cq ⟨[], [], []⟩ Tryz.func115 h
def fg.pre (a0 : Addr) (w : World) (R : Ending → World → Prop) : Prop :=
 ∃ (x0 : Int), ld w (ab (some a0) 2) = some (.int .i64 x0) ∧
 R (.returned (.bool (x0 == 0))) w
theorem fg.vc {a0 w} (h : fg.pre a0 w R) : Calls Tryz.prog ou #[.pointer (some a0)] w R :=
 cq ⟨[], [], []⟩ Tryz.func116 h
def tH.pre (a0 : Int) (w : World) (R : Ending → World → Prop) : Prop :=
 Br (decide (a0 ≥ 0))
 (R (.returned (.bool (decide (a0 ≤ 1099511627776)))) w)
 (R (.returned (.bool false)) w)
theorem tH.vc {a0 w} (h : tH.pre a0 w R) : Calls Tryz.prog ov #[a0] w R :=
 cq ⟨[], [], []⟩ Tryz.func117 h
def tI.pre (a0 : Sl) (a1 : Int) (w : World) (R : Ending → World → Prop) : Prop :=
 ∃ I0 : Nat → Sl → Int → Int → Sl → World → Prop,
 (∃ n1, I0 n1 a0 ((-1)) a1 ⟨none, 0, 0⟩ w) ∧
 ∀ (n1 : Nat) (us2 : Nat → Value) (s3 : Sl) (x4 x5 : Int) (s6 : Sl) (w7 : World), I0 n1 s3 x4 x5 s6 w7 →
 Br (decide ((((s3.n : Nat) : Int) : Int) > 0))
 (bA s3.a 0 s3.n ∧ ∃ (x9 : Int), ld w7 (ab s3.a ((0 : Int).toNat * 1)) = some (.int .u8 x9) ∧
 ∀ w10 : World, w10 = w7.alloc (.cells #[(0:Int), (0:Int)] 166) →
 ∀ w11 : World, w11 = w10.setRow w7 #[(0:Int), (IntKind.wrap .i64 x9)] →
 Calls Tryz.prog dT #[(IntKind.wrap .i64 x9)] w11 (fun e w12 => ∃ (b13 : Bool), e = .returned (.bool b13) ∧ Kp w7 w11 w12 ∧
 Br (!b13)
 (R (.returned (.tuple #[.slice none 0 0, (2:Int)])) w12)
 (Br (((IntKind.wrap .i64 x9) : Int) == x4)
 (R (.returned (.tuple #[.slice none 0 0, (2:Int)])) w12)
 ((0 : Int) ≤ ((s3.n : Nat) : Int) ∧ ((s3.n : Nat) : Int) ≤ ((s3.c : Nat) : Int) ∧ (0 : Int) ≤ ((s3.n : Nat) : Int) ∧ (((s3.n : Nat) : Int) : Int) ≤ ((s3.n : Nat) : Int) ∧ (0 : Int) ≤ 1 ∧ (1 : Int) ≤ ((s3.n : Nat) : Int) ∧ Calls Tryz.prog kU #[.slice (ai s3.a ((1 : Int).toNat) ((((s3.n : Nat) : Int) : Int).toNat) 1) ((((s3.n : Nat) : Int) : Int).toNat - (1 : Int).toNat) ((((s3.n : Nat) : Int) : Int).toNat - (1 : Int).toNat)] w12 (fun e w14 => ∃ (x15 x16 x17 : Int), e = .returned (.tuple #[x15, x16, x17]) ∧ Kp w7 w12 w14 ∧
 Br (x17 != 0)
 (R (.returned (.tuple #[.slice none 0 0, x17])) w14)
 (Br (x15 == 0)
 (R (.returned (.tuple #[.slice none 0 0, (2:Int)])) w14)
 (Br (decide (x15 > x5))
 (R (.returned (.tuple #[.slice none 0 0, (2:Int)])) w14)
 (∀ w18 : World, w18 = w14.setRow w7 #[x15, (IntKind.wrap .i64 x9)] →
 (0 : Int) ≤ (IntKind.wrap .i64 (1 + x16)) ∧ (IntKind.wrap .i64 (1 + x16)) ≤ ((s3.n : Nat) : Int) ∧ ∀ w19 : World, w19 = w18.drew.alloc (.cells #[x15, (IntKind.wrap .i64 x9)] 166) →
 au 16 2 w19 s6 1 [x15, (IntKind.wrap .i64 x9)] ∧ ∀ (s20 : Sl) (w21 : World), aq 166 2 w19 s6 1 [x15, (IntKind.wrap .i64 x9)] s20 w21 → Kp w7 w19 w21 ∧ w21.heap[w18.drew.heap.size]? = w19.heap[w18.drew.heap.size]? ∧
 Br (((IntKind.wrap .i64 (x5 - x15)) : Int) == 0)
 (Br (decide (((IntKind.wrap .i64 (x5 - x15)) : Int) > 0))
 (R (.returned (.tuple #[.slice none 0 0, (3:Int)])) w21)
 (Br (decide (((((s3.n - ((IntKind.wrap .i64 (1 + x16)) : Int).toNat) : Nat) : Int) : Int) > 0))
 (R (.returned (.tuple #[.slice none 0 0, (2:Int)])) w21)
 (R (.returned (.tuple #[s20, (0:Int)])) w21)))
 (∃ n8, n8 < n1 ∧ I0 n8 ⟨(ai s3.a (((IntKind.wrap .i64 (1 + x16)) : Int).toNat) (s3.c) 1), (s3.n - ((IntKind.wrap .i64 (1 + x16)) : Int).toNat), (s3.c - ((IntKind.wrap .i64 (1 + x16)) : Int).toNat)⟩ ((IntKind.wrap .i64 x9)) ((IntKind.wrap .i64 (x5 - x15))) s20 w21)))))))))
 (Br (decide (x5 > 0))
 (R (.returned (.tuple #[.slice none 0 0, (3:Int)])) w7)
 (Br (decide ((((s3.n : Nat) : Int) : Int) > 0))
 (R (.returned (.tuple #[.slice none 0 0, (2:Int)])) w7)
 (R (.returned (.tuple #[s6, (0:Int)])) w7)))
theorem tI.vc {a0 a1 w} (h : tI.pre a0 a1 w R) : Calls Tryz.prog ow #[a0, a1] w R :=
 cq ⟨[(3, ⟨[(0, .slice), (7, .int .i64), (1, .int .i64), (6, .slice)], [], []⟩)], [], []⟩ Tryz.func119 h
def gf.pre (a0 : Addr) (w : World) (R : Ending → World → Prop) : Prop :=
 ∃ (p0 : Option Addr), ld w (ab (some a0) 0) = some (.pointer p0) ∧
 R (.returned (.func (.func 43) #[.pointer p0] #[])) w
theorem gf.vc {a0 w} (h : gf.pre a0 w R) : Calls Tryz.prog jy #[.pointer (some a0)] w R :=
 cq ⟨[], [], []⟩ Tryz.func11 h
def tJ.pre (a0_0 a0_1 : Int) (a1 : Sl) (w : World) (R : Ending → World → Prop) : Prop :=
 ∀ w0 : World, w0 = w.alloc (.cells #[a0_0, a0_1] 89) →
 Calls Tryz.prog mo #[a1, (8192:Int)] w0 (fun e w1 => ∃ (b2 : Bool), e = .returned (.bool b2) ∧ Kp w w0 w1 ∧
 Br (!b2)
 (R (.returned (.tuple #[.pointer none, (1:Int)])) w1)
 ((Calls Tryz.prog a6 #[a1] w1.drew (fun e w3 => ∃ (s4 : Sl), e = .returned s4 ∧ Kp w w1.drew w3 ∧
 ∀ w5 : World, w5 = w3.alloc (.cells #[a0_0, a0_1, s4] 183) →
 R (.returned (.tuple #[.pointer (some ⟨w3, 0, none⟩), (0:Int)])) w5)) ∧ (Calls Tryz.prog a6 #[a1] w1.drew (fun e w6 => ∃ (s7 : Sl), e = .returned s7 ∧ Kp w w1.drew w6 ∧
 ah w6 (some ⟨w, 0, none⟩) 0 [a0_0, a0_1] ∧ ∀ w8 : World, w8 = w6.alloc (.cells #[a0_0, a0_1, s7] 183) →
 R (.returned (.tuple #[.pointer (some ⟨w6, 0, none⟩), (0:Int)])) w8))))
theorem tJ.vc {a0_0 a0_1 a1 w} (h : tJ.pre a0_0 a0_1 a1 w R) : Calls Tryz.prog ox #[.agg #[a0_0, a0_1], a1] w R :=
 cq ⟨[], [], []⟩ Tryz.func120 h
def tk.pre (a0 : Int) (a1_0 : Int) (a1_1 : Int) (w : World) (R : Ending → World → Prop) : Prop :=
 ∀ w0 : World, w0 = w.alloc (.cells #[.int .i64 a1_0, .int .i64 a1_1] 89) →
 ∀ w1 : World, w1 = w0.alloc (.cells #[.slice none 0 0] 111) →
 Calls Tryz.prog oy #[.int .i64 a0, .agg #[.int .i64 a1_0, .int .i64 a1_1]] w1 (fun e w2 => ∃ (v3 : Value), e = .returned (v3) ∧ w2.heap[w.heap.size]? = w1.heap[w.heap.size]? ∧ w2.heap[w0.heap.size]? = w1.heap[w0.heap.size]? ∧
 ∃ (xs4 : List (List Value)) (Rd5 F6 : Nat → Prop) (I7 : Nat → (Nat → Prop) → Sl → World → Prop) (X8 : Option Nat → (Nat → Prop) → Sl → World → Prop),
 (∀ x ∈ xs4, ∃ (x9 : Int), x = [.int .i64 x9]) ∧
 (∀ (n10 : Nat) (F11 : Nat → Prop) (s12 : Sl) (w13 w14 : World), I7 n10 F11 s12 w13 → Below w2.heap.size w13 w14 → (∀ i, F11 i → w14.heap[i]? = w13.heap[i]?) → I7 n10 F11 s12 w14) ∧
 (∀ (n15 : Option Nat) (F16 : Nat → Prop) (s17 : Sl) (w18 w19 : World), X8 n15 F16 s17 w18 → Below w2.heap.size w18 w19 → (∀ i, F16 i → w19.heap[i]? = w18.heap[i]?) → X8 n15 F16 s17 w19) ∧
 (∀ (n20 : Nat) (F21 : Nat → Prop) (s22 : Sl) (w23 : World), I7 n20 F21 s22 w23 → ∀ i, F21 i → i < w23.heap.size ∧ i ≠ w2.heap.size ∧ i ≠ w2.heap.size + 1) ∧
 (∀ (n24 : Option Nat) (F25 : Nat → Prop) (s26 : Sl) (w27 : World), X8 n24 F25 s26 w27 → ∀ i, F25 i → i < w27.heap.size ∧ i ≠ w2.heap.size ∧ i ≠ w2.heap.size + 1) ∧
 (∀ i, Rd5 i → i < w2.heap.size ∧ ¬ F6 i ∧ i ≠ w.heap.size ∧ i ≠ w0.heap.size ∧ True) ∧
 (∀ w28 : World, Jj w2.heap.size w2 w28 → Iter Tryz.prog (v3) w28 Rd5 xs4 ∧ ([.int .i64 a1_0, .int .i64 a1_1] : List Value) = [.int .i64 a1_0, .int .i64 a1_1] ∧ I7 0 F6 ⟨none, 0, 0⟩ w28) ∧
 (∀ (n29 : Nat) (F30 : Nat → Prop) (us31 : Nat → Value) (s32 : Sl) (x33 : Int) (w34 : World), xs4[n29]? = some [.int .i64 x33] → I7 n29 F30 s32 w34 →
 Below w34.heap.size w34 w34 ∧ ∀ w35 : World, Rec (w2.heap.size + 1) w34 w35 → I7 n29 F30 s32 w35 →
 ∀ w36 : World, w36 = w35.alloc (.cells #[.int .i64 x33] 3) →
 au 8 1 w36 ⟨s32.a, s32.n, s32.c⟩ 1 [.int .i64 x33] ∧ ∀ (s37 : Sl) (w38 : World), aq 3 1 w36 ⟨s32.a, s32.n, s32.c⟩ 1 [.int .i64 x33] s37 w38 → w38.heap[w.heap.size]? = w36.heap[w.heap.size]? ∧ w38.heap[w0.heap.size]? = w36.heap[w0.heap.size]? ∧ w38.heap[w35.heap.size]? = w36.heap[w35.heap.size]? ∧
 ∀ w39 : World, w39 = w38.setRow w0.heap.size #[.slice s37.a s37.n s37.c] →
 ∃ F40 : Nat → Prop, (([.int .i64 a1_0, .int .i64 a1_1] : List Value) = [.int .i64 a1_0, .int .i64 a1_1] ∧ I7 (n29 + 1) F40 ⟨s37.a, s37.n, s37.c⟩ w39) ∧ Step (fun i => F30 i ∨ i ∈ ([w.heap.size, w0.heap.size] : List Nat)) (fun i => F40 i ∨ i ∈ ([w.heap.size, w0.heap.size] : List Nat)) w35 w39) ∧
 (∀ (F41 : Nat → Prop) (us42 : Nat → Value) (s43 : Sl) (w44 : World), I7 xs4.length F41 s43 w44 → w44.heap[w2.heap.size]? = some (.deferred (some [])) →
 Calls Tryz.prog fE #[.slice s43.a s43.n s43.c] w44 (fun e w45 => ∃ (s46 : Sl), e = .returned (.slice s46.a s46.n s46.c) ∧ w45.heap[w.heap.size]? = w44.heap[w.heap.size]? ∧ w45.heap[w0.heap.size]? = w44.heap[w0.heap.size]? ∧
 Calls Tryz.prog tE #[.slice s46.a s46.n s46.c] w45 (fun e w47 => ∃ (s48 : Sl), e = .returned (.slice s48.a s48.n s48.c) ∧ w47.heap[w.heap.size]? = w45.heap[w.heap.size]? ∧ w47.heap[w0.heap.size]? = w45.heap[w0.heap.size]? ∧
 w47.heap[w2.heap.size]? = some (.deferred (some [])) ∧ ∀ w49 : World, Rec w2.heap.size w47 w49 →
 R (.returned (.slice s48.a s48.n s48.c)) w49))) ∧
 True)
theorem tk.vc {a0 a1_0 a1_1 w} (h : tk.pre a0 a1_0 a1_1 w R) : Calls Tryz.prog kc #[.int .i64 a0, .agg #[.int .i64 a1_0, .int .i64 a1_1]] w R :=
 cq ⟨[], [], [(4, ⟨[], [(1, [.slice])], []⟩, [.sc (.int .i64)])]⟩ Tryz.func121 h
def qK.pre (a0 : Sl) (a1 : Int) (w : World) (R : Ending → World → Prop) : Prop :=
 ∃ I0 : Nat → Int → Int → Sl → World → Prop,
 (∃ n1, I0 n1 a1 (0) ⟨none, 0, 0⟩ w) ∧
 ∀ (n1 : Nat) (us2 : Nat → Value) (x3 x4 : Int) (s5 : Sl) (w6 : World), I0 n1 x3 x4 s5 w6 →
 Br (decide (x3 > 0))
 (Br (decide (x4 ≥ ((a0.n : Nat) : Int)))
 (R (.returned (.tuple #[.slice none 0 0, (3:Int)])) w6)
 (bA a0.a x4 a0.n ∧ ∃ (x8 : Int), ld w6 (ab a0.a ((x4 : Int).toNat * 1)) = some (.int .u8 x8) ∧
 Calls Tryz.prog hM #[(IntKind.wrap .i64 x8)] w6 (fun e w9 => ∃ (b10 : Bool), e = .returned (.bool b10) ∧
 Br (!b10)
 (R (.returned (.tuple #[.slice none 0 0, (2:Int)])) w9)
 (Br (decide ((((s5.n : Nat) : Int) : Int) > 0))
 (bA s5.a (if 0 > (IntKind.wrap .i64 (((s5.n : Nat) : Int) - 1)) then 0 else (IntKind.wrap .i64 (((s5.n : Nat) : Int) - 1))) s5.n ∧ aK (ep (ab s5.a (((if 0 > (IntKind.wrap .i64 (((s5.n : Nat) : Int) - 1)) then 0 else (IntKind.wrap .i64 (((s5.n : Nat) : Int) - 1))) : Int).toNat * 2))) (∃ (x11 : Int), ld w9 (ab (ab s5.a (((if 0 > (IntKind.wrap .i64 (((s5.n : Nat) : Int) - 1)) then 0 else (IntKind.wrap .i64 (((s5.n : Nat) : Int) - 1))) : Int).toNat * 2)) 1) = some (.int .i64 x11) ∧
 Br (x11 == (IntKind.wrap .i64 x8))
 (R (.returned (.tuple #[.slice none 0 0, (2:Int)])) w9)
 ((0 : Int) ≤ (IntKind.wrap .i64 (x4 + 1)) ∧ (IntKind.wrap .i64 (x4 + 1)) ≤ ((a0.n : Nat) : Int) ∧ Calls Tryz.prog fK #[.slice (ai a0.a (((IntKind.wrap .i64 (x4 + 1)) : Int).toNat) (a0.c) 1) (a0.n - ((IntKind.wrap .i64 (x4 + 1)) : Int).toNat) (a0.c - ((IntKind.wrap .i64 (x4 + 1)) : Int).toNat)] w9 (fun e w12 => ∃ (x13 x14 x15 : Int), e = .returned (.tuple #[x13, x14, x15]) ∧
 Br (x15 != 0)
 (R (.returned (.tuple #[.slice none 0 0, x15])) w12)
 (Br (x13 == 0)
 (R (.returned (.tuple #[.slice none 0 0, (2:Int)])) w12)
 (Br (decide (x13 > x3))
 (R (.returned (.tuple #[.slice none 0 0, (2:Int)])) w12)
 (∀ w16 : World, w16 = w12.alloc (.cells #[x13, (IntKind.wrap .i64 x8)] 166) →
 au 16 2 w16 s5 1 [x13, (IntKind.wrap .i64 x8)] ∧ ∀ (s17 : Sl) (w18 : World), aq 166 2 w16 s5 1 [x13, (IntKind.wrap .i64 x8)] s17 w18 → Kp w12 w16 w18 ∧
 ∃ n7, n7 < n1 ∧ I0 n7 ((IntKind.wrap .i64 (x3 - x13))) ((IntKind.wrap .i64 ((IntKind.wrap .i64 (x4 + 1)) + x14))) s17 w18)))))))
 ((0 : Int) ≤ (IntKind.wrap .i64 (x4 + 1)) ∧ (IntKind.wrap .i64 (x4 + 1)) ≤ ((a0.n : Nat) : Int) ∧ Calls Tryz.prog fK #[.slice (ai a0.a (((IntKind.wrap .i64 (x4 + 1)) : Int).toNat) (a0.c) 1) (a0.n - ((IntKind.wrap .i64 (x4 + 1)) : Int).toNat) (a0.c - ((IntKind.wrap .i64 (x4 + 1)) : Int).toNat)] w9 (fun e w19 => ∃ (x20 x21 x22 : Int), e = .returned (.tuple #[x20, x21, x22]) ∧
 Br (x22 != 0)
 (R (.returned (.tuple #[.slice none 0 0, x22])) w19)
 (Br (x20 == 0)
 (R (.returned (.tuple #[.slice none 0 0, (2:Int)])) w19)
 (Br (decide (x20 > x3))
 (R (.returned (.tuple #[.slice none 0 0, (2:Int)])) w19)
 (∀ w23 : World, w23 = w19.alloc (.cells #[x20, (IntKind.wrap .i64 x8)] 166) →
 au 16 2 w23 s5 1 [x20, (IntKind.wrap .i64 x8)] ∧ ∀ (s24 : Sl) (w25 : World), aq 166 2 w23 s5 1 [x20, (IntKind.wrap .i64 x8)] s24 w25 → Kp w19 w23 w25 ∧
 ∃ n7, n7 < n1 ∧ I0 n7 ((IntKind.wrap .i64 (x3 - x20))) ((IntKind.wrap .i64 ((IntKind.wrap .i64 (x4 + 1)) + x21))) s24 w25)))))))))
 (Br (decide (x4 < ((a0.n : Nat) : Int)))
 (R (.returned (.tuple #[.slice none 0 0, (2:Int)])) w6)
 (R (.returned (.tuple #[s5, (0:Int)])) w6))
theorem qK.vc {a0 a1 w} (h : qK.pre a0 a1 w R) : Calls Tryz.prog ml #[a0, a1] w R :=
 cq ⟨[(3, ⟨[(1, .int .i64), (7, .int .i64), (6, .slice)], [], []⟩)], [], []⟩ Tryz.func126 h
def oD.pre (a0 a1_0 a1_1 : Int) (w : World) (R : Ending → World → Prop) : Prop :=
 ∀ w0 : World, w0 = w.alloc (.cells #[a1_0, a1_1] 89) →
 ∃ I1 : Nat → Int → Sl → World → Prop,
 (∃ n2, aT [a1_0, a1_1] ∧ I1 n2 (0) ⟨none, 0, 0⟩ w0) ∧
 ∀ (n2 : Nat) (us3 : Nat → Value) (x4 : Int) (s5 : Sl) (w6 : World), I1 n2 x4 s5 w6 →
 Br (decide (x4 < 8192))
 (Calls Tryz.prog lX #[.agg #[a1_0, a1_1], x4] w6 (fun e w8 => ∃ (x9 x10 x11 : Int) (b12 : Bool), e = .returned (.tuple #[.agg #[x9, x10, x11], .bool b12]) ∧ Kp w w6 w8 ∧
 ∀ w13 : World, w13 = w8.alloc (.cells #[(0:Int), (0:Int), (0:Int)] 23) →
 ∀ w14 : World, w14 = w13.setRow w8 #[x9, x10, x11] →
 Calls Tryz.prog kN #[a0, .agg #[x9, x10, x11]] w14 (fun e w15 => ∃ (x16 : Int), e = .returned x16 ∧ Kp w w14 w15 ∧ Kp w8 w14 w15 ∧
 ∀ w17 : World, w17 = w15.alloc (.cells #[x16] 3) →
 au 8 1 w17 s5 1 [x16] ∧ ∀ (s18 : Sl) (w19 : World), aq 3 1 w17 s5 1 [x16] s18 w19 → Kp w w17 w19 ∧ Kp w8 w17 w19 ∧ Kp w15 w17 w19 ∧
 ∃ n7, n7 < n2 ∧ aT [a1_0, a1_1] ∧ I1 n7 ((IntKind.wrap .i64 (x4 + 1))) s18 w19)))
 (Calls Tryz.prog dP #[s5] w6 (fun e w20 => ∃ (s21 : Sl), e = .returned s21 ∧ Kp w w6 w20 ∧
 R (.returned s21) w20))
theorem oD.vc {a0 a1_0 a1_1 w} (h : oD.pre a0 a1_0 a1_1 w R) : Calls Tryz.prog kT #[a0, .agg #[a1_0, a1_1]] w R :=
 cq ⟨[(3, ⟨[(6, .int .i64), (5, .slice)], [], []⟩)], [], []⟩ Tryz.func127 h
def v9.pre (a0 a1 : Int) (w : World) (R : Ending → World → Prop) : Prop :=
 Br (decide (a1 < 1))
 (R (.returned (0:Int)) w)
 (aK (FQ a1) (aK (FQ a1) (Br (decide (((Int.tmod a0 a1) : Int) < 0))
 (R (.returned ((IntKind.wrap .i64 ((IntKind.wrap .i64 (Int.tdiv a0 a1)) - 1)))) w)
 (R (.returned ((IntKind.wrap .i64 (Int.tdiv a0 a1)))) w))))
theorem v9.vc {a0 a1 w} (h : v9.pre a0 a1 w R) : Calls Tryz.prog gl #[a0, a1] w R :=
 cq ⟨[], [], []⟩ Tryz.func128 h
def fN.pre (a0_0 a0_1 a1_0 a1_1 a1_2 : Int) (w : World) (R : Ending → World → Prop) : Prop :=
 ∀ w0 : World, w0 = w.alloc (.cells #[a0_0, a0_1] 181) →
 ∀ w1 : World, w1 = w0.alloc (.cells #[a1_0, a1_1, a1_2] 23) →
 Calls Tryz.prog ja #[.agg #[a1_0, a1_1, a1_2]] w1 (fun e w2 => ∃ (x3 : Int) (b4 : Bool), e = .returned (.tuple #[x3, .bool b4]) ∧ Kp w w1 w2 ∧ Kp w0 w1 w2 ∧
 Br b4
 (Calls Tryz.prog eg #[.agg #[a1_0, a1_1, a1_2]] w2.drew (fun e w5 => ∃ (x6 x7 : Int), e = .returned (.agg #[x6, x7]) ∧ Kp w w2.drew w5 ∧ Kp w0 w2.drew w5 ∧
 ah w5 (some ⟨w, 0, none⟩) 0 [a0_0, a0_1] ∧ R (.returned (.tuple #[x3, .bool ((x6 == a0_0) && (x7 == a0_1))])) w5))
 (R (.returned (.tuple #[x3, .bool false])) w2.drew))
theorem fN.vc {a0_0 a0_1 a1_0 a1_1 a1_2 w} (h : fN.pre a0_0 a0_1 a1_0 a1_1 a1_2 w R) : Calls Tryz.prog cN #[.agg #[a0_0, a0_1], .agg #[a1_0, a1_1, a1_2]] w R :=
 cq ⟨[], [], []⟩ Tryz.func129 h
def Al.pre (a0 : Sl) (a1 : Int) (w : World) (R : Ending → World → Prop) : Prop :=
 ∃ I0 : Nat → Int → Int → World → Prop,
 (∃ n1, I0 n1 (0) a1 w) ∧
 ∀ (n1 : Nat) (us2 : Nat → Value) (x3 x4 : Int) (w5 : World), I0 n1 x3 x4 w5 →
 Br (decide (x3 < ((a0.n : Nat) : Int)))
 (bA a0.a x3 a0.n ∧ ∃ (x7 x8 : Int), ah w5 (ab a0.a ((x3 : Int).toNat * 2)) 0 [x7, x8] ∧
 ∀ w9 : World, w9 = w5.alloc (.cells #[(0:Int), (0:Int)] 166) →
 ∀ w10 : World, w10 = w9.setRow w5 #[x7, x8] →
 Br (decide (x4 ≥ 0))
 (Br (decide (x4 < x7))
 (R (.returned x8) w10)
 (∃ n6, n6 < n1 ∧ I0 n6 ((IntKind.wrap .i64 (x3 + 1))) ((IntKind.wrap .i64 (x4 - x7))) w10))
 (∃ n6, n6 < n1 ∧ I0 n6 ((IntKind.wrap .i64 (x3 + 1))) ((IntKind.wrap .i64 (x4 - x7))) w10))
 (R (.returned (.int .i64 (-1))) w5)
theorem Al.vc {a0 a1 w} (h : Al.pre a0 a1 w R) : Calls Tryz.prog tD #[a0, a1] w R :=
 cq ⟨[(2, ⟨[(9, .int .i64), (1, .int .i64)], [], []⟩)], [], []⟩ Tryz.func130 h
def tL.pre (a0 : Int) (w : World) (R : Ending → World → Prop) : Prop :=
 Br (decide (a0 ≥ 8))
 (R (.returned (.bool (decide (a0 < 16)))) w)
 (R (.returned (.bool false)) w)
theorem tL.vc {a0 w} (h : tL.pre a0 w R) : Calls Tryz.prog ke #[a0] w R :=
 cq ⟨[], [], []⟩ Tryz.func134 h
def gr.pre (a0 : Addr) (w : World) (R : Ending → World → Prop) : Prop :=
 ∃ (s0 : Sl), ld w (ab (some a0) 3) = some (.slice s0.a s0.n s0.c) ∧
 ∃ I1 : Nat → Int → Sl → World → Prop,
 (∃ n2, I1 n2 (0) ⟨none, 0, 0⟩ w) ∧
 ∀ (n2 : Nat) (us3 : Nat → Value) (x4 : Int) (s5 : Sl) (w6 : World), I1 n2 x4 s5 w6 →
 Br (decide (x4 < ((s0.n : Nat) : Int)))
 (bA s0.a x4 s0.n ∧ ∃ (p8 : Option Addr), ld w6 (ab s0.a ((x4 : Int).toNat * 1)) = some (.pointer p8) ∧
 aK (ep p8) (aK (ep p8) (∃ (p9 : Option Addr), ld w6 (ab p8 0) = some (.pointer p9) ∧
 aK (ep p9) (aK (ep p9) (∃ (x10 x11 : Int), ah w6 (ab p9 0) 0 [x10, x11] ∧
 Calls Tryz.prog bW #[.agg #[x10, x11]] w6 (fun e w12 => ∃ (x13 x14 : Int), e = .returned (.agg #[x13, x14]) ∧
 ∀ w15 : World, w15 = w12.alloc (.cells #[x13, x14] 89) →
 au 16 2 w15 s5 1 [x13, x14] ∧ ∀ (s16 : Sl) (w17 : World), aq 89 2 w15 s5 1 [x13, x14] s16 w17 → Kp w12 w15 w17 ∧
 ∃ n7, n7 < n2 ∧ I1 n7 ((IntKind.wrap .i64 (x4 + 1))) s16 w17))))))
 (R (.returned s5) w6)
theorem gr.vc {a0 w} (h : gr.pre a0 w R) : Calls Tryz.prog c9 #[.pointer (some a0)] w R :=
 cq ⟨[(3, ⟨[(11, .int .i64), (3, .slice)], [], []⟩)], [], []⟩ Tryz.func135 h
def j6.pre (a0_0 a0_1 : Int) (w : World) (R : Ending → World → Prop) : Prop :=
 ∀ w0 : World, w0 = w.alloc (.cells #[a0_0, a0_1] 89) →
 ∀ w1 : World, w1 = w0.alloc (.cells #[(0:Int), (0:Int), (0:Int), (0:Int), (0:Int), (0:Int), (0:Int), (0:Int), (0:Int), (0:Int)] 202) →
 (true = true ∧ Wr w1 (some ⟨w0, 0, none⟩) 10) ∧ bK (some ⟨w0, 0, none⟩) ≠ some w.heap.size ∧ (∀ w2 : World, w2 = aB w1 (some ⟨w0, 0, none⟩) [a0_0, a0_1, (IntKind.wrap .i64 (a0_0 - 1)), a0_1, (IntKind.wrap .i64 (a0_0 + 1)), a0_1, a0_0, (IntKind.wrap .i64 (a0_1 - 1)), a0_0, (IntKind.wrap .i64 (a0_1 + 1))] →
 ∃ (x3 x4 x5 x6 x7 x8 x9 x10 x11 x12 : Int), ah w2 (some ⟨w0, 0, none⟩) 0 [x3, x4, x5, x6, x7, x8, x9, x10, x11, x12] ∧
 R (.returned (.agg #[x3, x4, x5, x6, x7, x8, x9, x10, x11, x12])) w2)
theorem j6.vc {a0_0 a0_1 w} (h : j6.pre a0_0 a0_1 w R) : Calls Tryz.prog kF #[.agg #[a0_0, a0_1]] w R :=
 cq ⟨[], [], []⟩ Tryz.func136 h
def ey.pre (a0 : Sl) (a1_0 a1_1 : Int) (w : World) (R : Ending → World → Prop) : Prop :=
 ∀ w0 : World, w0 = w.alloc (.cells #[a1_0, a1_1] 89) →
 Calls Tryz.prog eP #[a0, .agg #[a1_0, a1_1]] w0 (fun e w1 => ∃ (x2 : Int), e = .returned x2 ∧ Kp w w0 w1 ∧
 R (.returned (.bool (decide (x2 ≥ 0)))) w1)
theorem ey.vc {a0 a1_0 a1_1 w} (h : ey.pre a0 a1_0 a1_1 w R) : Calls Tryz.prog dw #[a0, .agg #[a1_0, a1_1]] w R :=
 cq ⟨[], [], []⟩ Tryz.func137 h
def oE.pre (a0 : Int) (w : World) (R : Ending → World → Prop) : Prop :=
 Calls Tryz.prog ke #[a0] w (fun e w0 => ∃ (b1 : Bool), e = .returned (.bool b1) ∧
 Br (!b1)
 (R (.returned (.int .i64 (-1))) w0)
 (R (.returned ((IntKind.wrap .i64 (a0 - 8)))) w0))
theorem oE.vc {a0 w} (h : oE.pre a0 w R) : Calls Tryz.prog pW #[a0] w R :=
 cq ⟨[], [], []⟩ Tryz.func140 h
def px.pre (a0 a1 : Int) (w : World) (R : Ending → World → Prop) : Prop :=
 aK (FQ a1) (Br (decide (((IntKind.wrap .i64 ((IntKind.wrap .i64 (Int.tdiv a0 a1)) * a1)) : Int) > a0))
 (R (.returned ((IntKind.wrap .i64 ((IntKind.wrap .i64 (Int.tdiv a0 a1)) - 1)))) w)
 (R (.returned ((IntKind.wrap .i64 (Int.tdiv a0 a1)))) w))
theorem px.vc {a0 a1 w} (h : px.pre a0 a1 w R) : Calls Tryz.prog nN #[a0, a1] w R :=
 cq ⟨[], [], []⟩ Tryz.func144 h
def nO.pre (a0_0 a0_1 a0_2 : Int) (w : World) (R : Ending → World → Prop) : Prop :=
 ∀ w0 : World, w0 = w.alloc (.cells #[a0_0, a0_1, a0_2] 23) →
 Br (decide (a0_1 < 0))
 (R (.returned (.tuple #[(0:Int), .bool false])) w0)
 (Br (decide (a0_1 > 31))
 (R (.returned (.tuple #[(0:Int), .bool false])) w0)
 (Calls Tryz.prog fm #[a0_2, (16:Int)] w0.drew (fun e w1 => ∃ (x2 : Int), e = .returned x2 ∧ Kp w w0.drew w1 ∧
 ah w1 (some ⟨w, 0, none⟩) 0 [a0_0] ∧ ah w1 (some ⟨w, 1, none⟩) 0 [a0_1] ∧ Calls Tryz.prog fm #[a0_0, (16:Int)] w1 (fun e w3 => ∃ (x4 : Int), e = .returned x4 ∧ Kp w w1 w3 ∧
 ah w3 (some ⟨w, 1, none⟩) 0 [a0_1] ∧ R (.returned (.tuple #[(IntKind.wrap .i64 ((IntKind.wrap .i64 ((IntKind.wrap .i64 (a0_1 * 256)) + (IntKind.wrap .i64 (x2 * 16)))) + x4)), .bool true])) w3))))
theorem nO.vc {a0_0 a0_1 a0_2 w} (h : nO.pre a0_0 a0_1 a0_2 w R) : Calls Tryz.prog kJ #[.agg #[a0_0, a0_1, a0_2]] w R :=
 cq ⟨[], [], []⟩ Tryz.func145 h
def pC.pre (a0 : Int) (w : World) (R : Ending → World → Prop) : Prop :=
 Br (decide (a0 ≥ 0))
 (Br (decide (a0 ≤ 15))
 (Br (a0 != 6)
 (R (.returned (.bool (a0 != 7))) w)
 (R (.returned (.bool false)) w))
 (R (.returned (.bool false)) w))
 (R (.returned (.bool false)) w)
theorem pC.vc {a0 w} (h : pC.pre a0 w R) : Calls Tryz.prog hM #[a0] w R :=
 cq ⟨[], [], []⟩ Tryz.func146 h
def tM.pre (a0_0 a0_1 : Int) (a0_2 : Sl) (a1_0 a1_1 a1_2 a2 : Int) (w : World) (R : Ending → World → Prop) : Prop :=
 ∀ w0 : World, w0 = w.alloc (.cells #[a0_0, a0_1, a0_2] 108) →
 ∀ w1 : World, w1 = w0.alloc (.cells #[a1_0, a1_1, a1_2] 23) →
 ∀ w2 : World, w2 = w1.alloc (.cells #[(0:Int), (0:Int), .slice none 0 0] 108) →
 Calls Tryz.prog gR #[.agg #[a0_0, a0_1, a0_2], .agg #[a1_0, a1_1, a1_2]] w2 (fun e w3 => ∃ (x4 : Int), e = .returned x4 ∧ Kp w w2 w3 ∧ Kp w0 w2 w3 ∧ Kp w1 w2 w3 ∧
 Br (decide (x4 < 0))
 (∀ w5 : World, w5 = w3.setRow w1 #[a0_0, a0_1, a0_2] →
 R (.returned (.tuple #[.agg #[a0_0, a0_1, a0_2], (5:Int)])) w5)
 (Calls Tryz.prog hM #[a2] w3 (fun e w6 => ∃ (b7 : Bool), e = .returned (.bool b7) ∧ Kp w w3 w6 ∧ Kp w0 w3 w6 ∧ Kp w1 w3 w6 ∧
 Br (!b7)
 (∀ w8 : World, w8 = w6.setRow w1 #[a0_0, a0_1, a0_2] →
 R (.returned (.tuple #[.agg #[a0_0, a0_1, a0_2], (1:Int)])) w8)
 (Calls Tryz.prog nV #[a0_2, x4, a2] w6 (fun e w9 => ∃ (s10 : Sl), e = .returned s10 ∧ Kp w w6 w9 ∧ Kp w0 w6 w9 ∧ Kp w1 w6 w9 ∧
 ∀ w11 : World, w11 = w9.setRow w #[a0_0, a0_1, s10] →
 ∀ w12 : World, w12 = w11.setRow w1 #[a0_0, a0_1, s10] →
 R (.returned (.tuple #[.agg #[a0_0, a0_1, s10], (0:Int)])) w12)))))
theorem tM.vc {a0_0 a0_1 a0_2 a1_0 a1_1 a1_2 a2 w} (h : tM.pre a0_0 a0_1 a0_2 a1_0 a1_1 a1_2 a2 w R) : Calls Tryz.prog uW #[.agg #[a0_0, a0_1, a0_2], .agg #[a1_0, a1_1, a1_2], a2] w R :=
 cq ⟨[], [], []⟩ Tryz.func147 h
def wc.pre (a0 a1 : Int) (w : World) (R : Ending → World → Prop) : Prop :=
 Br (decide (a1 < 1))
 (R (.returned (0:Int)) w)
 (aK (FQ a1) (Br (decide (((Int.tmod a0 a1) : Int) < 0))
 (R (.returned ((IntKind.wrap .i64 ((Int.tmod a0 a1) + a1)))) w)
 (R (.returned (.int .i64 (Int.tmod a0 a1))) w)))
theorem wc.vc {a0 a1 w} (h : wc.pre a0 a1 w R) : Calls Tryz.prog gm #[a0, a1] w R :=
 cq ⟨[], [], []⟩ Tryz.func148 h
def qL.pre (a0 : Int) (w : World) (R : Ending → World → Prop) : Prop :=
 Br (decide (a0 < 0))
 (R (.returned (.string (ByteArray.mk #[]))) w)
 (Br (decide (a0 ≥ 16))
 (R (.returned (.string (ByteArray.mk #[]))) w)
 (Calls Tryz.prog kV #[] w (fun e w0 => ∃ (t1 t2 t3 t4 t5 t6 t7 t8 t9 t10 t11 t12 t13 t14 t15 t16 : ByteArray), e = .returned (.agg #[.string t1, .string t2, .string t3, .string t4, .string t5, .string t6, .string t7, .string t8, .string t9, .string t10, .string t11, .string t12, .string t13, .string t14, .string t15, .string t16]) ∧
 ((0 : Int) ≤ a0 ∧ a0 < ((16 : Nat) : Int)) ∧ ∃ (t17 : ByteArray), ([.string t1, .string t2, .string t3, .string t4, .string t5, .string t6, .string t7, .string t8, .string t9, .string t10, .string t11, .string t12, .string t13, .string t14, .string t15, .string t16] : List Value)[(a0 : Int).toNat * 1]? = some (.string t17) ∧
 R (.returned (.string t17)) w0)))
theorem qL.vc {a0 w} (h : qL.pre a0 w R) : Calls Tryz.prog mn #[a0] w R :=
 cq ⟨[], [], []⟩ Tryz.func149 h
def wL.pre (a0 : Sl) (a1 a2 : Int) (w : World) (R : Ending → World → Prop) : Prop :=
 Br (decide (a1 < 0))
 (Calls Tryz.prog a6 #[a0] w (fun e w0 => ∃ (s1 : Sl), e = .returned s1 ∧
 R (.returned s1) w0))
 (Calls Tryz.prog jH #[a0] w (fun e w2 => ∃ (x3 : Int), e = .returned x3 ∧
 Br (decide (a1 ≥ x3))
 (Calls Tryz.prog a6 #[a0] w2 (fun e w4 => ∃ (s5 : Sl), e = .returned s5 ∧
 R (.returned s5) w4))
 (Calls Tryz.prog oA #[a0, a1, (IntKind.wrap .i64 (a1 + 1)), a2] w2 (fun e w6 => ∃ (s7 : Sl), e = .returned s7 ∧
 R (.returned s7) w6))))
theorem wL.vc {a0 a1 a2 w} (h : wL.pre a0 a1 a2 w R) : Calls Tryz.prog qI #[a0, a1, a2] w R :=
 cq ⟨[], [], []⟩ Tryz.func150 h
def fO.pre (a0 : Addr) (w : World) (R : Ending → World → Prop) : Prop :=
 ∃ (s0 : Sl), ld w (ab (some a0) 2) = some (.slice s0.a s0.n s0.c) ∧
 Calls Tryz.prog mq #[s0] w (fun e w1 => ∃ (s2 : Sl) (x3 : Int), e = .returned (.tuple #[s2, x3]) ∧
 R (.returned s2) w1)
theorem fO.vc {a0 w} (h : fO.pre a0 w R) : Calls Tryz.prog eB #[.pointer (some a0)] w R :=
 cq ⟨[], [], []⟩ Tryz.func152 h
def wM.pre (a0 : Int) (w : World) (R : Ending → World → Prop) : Prop :=
 ∀ w0 : World, w0 = w.alloc (.map #[] 0) →
 ∀ w1 : World, w1 = w0.alloc (.cells #[.int .i64 (if 1048576 < (if 0 > a0 then 0 else a0) then 1048576 else (if 0 > a0 then 0 else a0)), (0:Int), (0:Int), .map (some w.heap.size), .slice none 0 0] 262) →
 R (.returned (.pointer (some ⟨w0, 0, none⟩))) w1
theorem wM.vc {a0 w} (h : wM.pre a0 w R) : Calls Tryz.prog qJ #[a0] w R :=
 cq ⟨[], [], []⟩ Tryz.func157 h
def kX.pre (a0 : Addr) (a1 : Int) (w : World) (R : Ending → World → Prop) : Prop :=
 Calls Tryz.prog iz #[.pointer (some a0)] w (fun e w0 => ∃ (m1 : Option Nat), e = .returned (.map m1) ∧
 ∃ (G2 : Value → Prop) (kvs3 : List (Value × Value)), dV Tryz.prog 3 G2 ∧ aO G2 w0 m1 kvs3 ∧ G2 a1 ∧ ∃ (s4 : Sl), ∃ b5 : Bool, yw kvs3 a1 (.slice none 0 0) s4 b5 ∧
 Calls Tryz.prog cM #[s4] w0 (fun e w6 => ∃ (s7 : Sl), e = .returned s7 ∧
 R (.returned (.tuple #[s7, .bool b5])) w6))
theorem kX.vc {a0 a1 w} (h : kX.pre a0 a1 w R) : Calls Tryz.prog m8 #[.pointer (some a0), a1] w R :=
 cq ⟨[], [], []⟩ Tryz.func158 h
def qM.pre (a0 : Sl) (w : World) (R : Ending → World → Prop) : Prop :=
 Calls Tryz.prog qq #[a0] w (fun e w0 => ∃ (s1 : Sl) (x2 : Int), e = .returned (.tuple #[s1, x2]) ∧
 Br (x2 != 0)
 (R (.returned (.tuple #[(0:Int), .slice none 0 0, x2])) w0)
 (Br (decide ((((s1.n : Nat) : Int) : Int) < 7))
 (R (.returned (.tuple #[(0:Int), .slice none 0 0, (3:Int)])) w0)
 ((0 : Int) ≤ 4 ∧ 4 ≤ ((s1.c : Nat) : Int) ∧ (0 : Int) ≤ 7 ∧ 7 ≤ ((s1.c : Nat) : Int) ∧ (0 : Int) ≤ 4 ∧ (4 : Int) ≤ 7 ∧ (0 : Int) ≤ 7 ∧ 7 ≤ ((s1.n : Nat) : Int) ∧ Calls Tryz.prog 205 #[.slice (ai s1.a (0) (s1.c) 1) ((4 : Int).toNat - 0) (s1.c - 0)] w0.drew (fun e w3 => ∃ (x4 : Int), e = .returned x4 ∧
 Calls Tryz.prog 205 #[.slice (ai s1.a ((4 : Int).toNat) (s1.c) 1) ((7 : Int).toNat - (4 : Int).toNat) (s1.c - (4 : Int).toNat)] w3 (fun e w5 => ∃ (x6 : Int), e = .returned x6 ∧
 Br (decide (x4 < 1))
 (R (.returned (.tuple #[(0:Int), .slice none 0 0, (2:Int)])) w5)
 (Br (decide (x4 > 1073741824))
 (R (.returned (.tuple #[(0:Int), .slice none 0 0, (2:Int)])) w5)
 (Br (decide (x6 > 65536))
 (R (.returned (.tuple #[(0:Int), .slice none 0 0, (2:Int)])) w5)
 (Br (x6 != (((s1.n - (7 : Int).toNat) : Nat) : Int))
 (R (.returned (.tuple #[(0:Int), .slice none 0 0, (2:Int)])) w5)
 (R (.returned (.tuple #[x4, .slice (ai s1.a ((7 : Int).toNat) (s1.c) 1) (s1.n - (7 : Int).toNat) (s1.c - (7 : Int).toNat), (0:Int)])) w5)))))))))
theorem qM.vc {a0 w} (h : qM.pre a0 w R) : Calls Tryz.prog rX #[a0] w R :=
 cq ⟨[], [], []⟩ Tryz.func159 h
def kg.pre (a0 : Sl) (w : World) (R : Ending → World → Prop) : Prop :=
 (0 : Int) ≤ (if 3 < ((a0.n : Nat) : Int) then 3 else ((a0.n : Nat) : Int)) ∧ (if 3 < ((a0.n : Nat) : Int) then 3 else ((a0.n : Nat) : Int)) ≤ ((a0.c : Nat) : Int) ∧ ∃ I0 : Nat → Int → Int → World → Prop,
 (∃ n1, I0 n1 (0) (0) w) ∧
 ∀ (n1 : Nat) (us2 : Nat → Value) (x3 x4 : Int) (w5 : World), I0 n1 x3 x4 w5 →
 Br (decide (x3 < (((((if 3 < ((a0.n : Nat) : Int) then 3 else ((a0.n : Nat) : Int)) : Int).toNat - 0) : Nat) : Int)))
 (bA (ai a0.a (0) (a0.c) 1) x3 (((if 3 < ((a0.n : Nat) : Int) then 3 else ((a0.n : Nat) : Int)) : Int).toNat - 0) ∧ ∃ (x7 : Int), ld w5 (ab (ai a0.a (0) (a0.c) 1) ((x3 : Int).toNat * 1)) = some (.int .u8 x7) ∧
 aK (JA (IntKind.wrap .i64 (7 * x3))) (Br (decide (x7 ≥ 128))
 (∃ n6, n6 < n1 ∧ I0 n6 ((IntKind.wrap .i64 (x3 + 1))) ((AR .i64 x4 (IntKind.wrap .i64 ((IntKind.wrap .i64 (gM .u8 x7 128)) * 2 ^ (min ((IntKind.wrap .i64 (7 * x3)) : Int).toNat 64))))) w5)
 (Br (x7 == 0)
 (Br (decide (x3 > 0))
 (R (.returned (.tuple #[(0:Int), (0:Int), (2:Int)])) w5)
 (Br (decide (((AR .i64 x4 (IntKind.wrap .i64 ((IntKind.wrap .i64 (gM .u8 x7 128)) * 2 ^ (min ((IntKind.wrap .i64 (7 * x3)) : Int).toNat 64)))) : Int) > 1048576))
 (R (.returned (.tuple #[(0:Int), (0:Int), (2:Int)])) w5)
 (R (.returned (.tuple #[.int .i64 (AR .i64 x4 (IntKind.wrap .i64 ((IntKind.wrap .i64 (gM .u8 x7 128)) * 2 ^ (min ((IntKind.wrap .i64 (7 * x3)) : Int).toNat 64)))), (IntKind.wrap .i64 (x3 + 1)), (0:Int)])) w5)))
 (Br (decide (((AR .i64 x4 (IntKind.wrap .i64 ((IntKind.wrap .i64 (gM .u8 x7 128)) * 2 ^ (min ((IntKind.wrap .i64 (7 * x3)) : Int).toNat 64)))) : Int) > 1048576))
 (R (.returned (.tuple #[(0:Int), (0:Int), (2:Int)])) w5)
 (R (.returned (.tuple #[.int .i64 (AR .i64 x4 (IntKind.wrap .i64 ((IntKind.wrap .i64 (gM .u8 x7 128)) * 2 ^ (min ((IntKind.wrap .i64 (7 * x3)) : Int).toNat 64)))), (IntKind.wrap .i64 (x3 + 1)), (0:Int)])) w5)))))
 (Br (decide ((((a0.n : Nat) : Int) : Int) < 3))
 (R (.returned (.tuple #[(0:Int), (0:Int), (3:Int)])) w5)
 (R (.returned (.tuple #[(0:Int), (0:Int), (2:Int)])) w5))
theorem kg.vc {a0 w} (h : kg.pre a0 w R) : Calls Tryz.prog kU #[a0] w R :=
 cq ⟨[(3, ⟨[(14, .int .i64), (5, .int .i64)], [], []⟩)], [], []⟩ Tryz.func160 h
def wN.pre (a0 : Sl) (a1 : Int) (w : World) (R : Ending → World → Prop) : Prop :=
 ∃ I0 : Nat → Int → Int → World → Prop,
 (∃ n1, I0 n1 (0) a1 w) ∧
 ∀ (n1 : Nat) (us2 : Nat → Value) (x3 x4 : Int) (w5 : World), I0 n1 x3 x4 w5 →
 Br (decide (x3 < ((a0.n : Nat) : Int)))
 (bA a0.a x3 a0.n ∧ ∃ (x7 x8 : Int), ah w5 (ab a0.a ((x3 : Int).toNat * 2)) 0 [x7, x8] ∧
 ∀ w9 : World, w9 = w5.alloc (.cells #[(0:Int), (0:Int)] 166) →
 ∀ w10 : World, w10 = w9.setRow w5 #[x7, x8] →
 Br (decide (x7 < 1))
 (R (.returned (.bool false)) w10.drew)
 (Br (decide (x7 > x4))
 (R (.returned (.bool false)) w10.drew)
 (Calls Tryz.prog dT #[x8] w10.drew (fun e w11 => ∃ (b12 : Bool), e = .returned (.bool b12) ∧ Kp w5 w10.drew w11 ∧
 ah w11 (some ⟨w5, 0, none⟩) 0 [x7] ∧ ah w11 (some ⟨w5, 0, none⟩) 0 [x7] ∧ Br (!b12)
 (R (.returned (.bool false)) w11)
 (Br (decide (x3 > 0))
 (bA a0.a (IntKind.wrap .i64 (x3 - 1)) a0.n ∧ aK (ep (ab a0.a (((IntKind.wrap .i64 (x3 - 1)) : Int).toNat * 2))) (∃ (x13 : Int), ld w11 (ab (ab a0.a (((IntKind.wrap .i64 (x3 - 1)) : Int).toNat * 2)) 1) = some (.int .i64 x13) ∧
 Br (x13 == x8)
 (R (.returned (.bool false)) w11)
 (∃ n6, n6 < n1 ∧ I0 n6 ((IntKind.wrap .i64 (x3 + 1))) ((IntKind.wrap .i64 (x4 - x7))) w11)))
 (∃ n6, n6 < n1 ∧ I0 n6 ((IntKind.wrap .i64 (x3 + 1))) ((IntKind.wrap .i64 (x4 - x7))) w11))))))
 (Br (decide (a1 > 0))
 (R (.returned (.bool (x4 == 0))) w5)
 (R (.returned (.bool false)) w5))
theorem wN.vc {a0 a1 w} (h : wN.pre a0 a1 w R) : Calls Tryz.prog mo #[a0, a1] w R :=
 cq ⟨[(3, ⟨[(11, .int .i64), (5, .int .i64)], [], []⟩)], [], []⟩ Tryz.func161 h
def gu.pre (a0 : Sl) (w : World) (R : Ending → World → Prop) : Prop :=
 Br (a0.a).isNone
 (R (.returned (.slice none 0 0)) w)
 (∀ w0 : World, w0 = w.alloc (.cells #[] 166) →
 ∃ l1 : List Value, Rd w0 a0.a l1 ∧ au 16 2 w0 ⟨(some ⟨w, 0, none⟩), 0, 0⟩ a0.n l1 ∧ ∀ (s2 : Sl) (w3 : World), aq 166 2 w0 ⟨(some ⟨w, 0, none⟩), 0, 0⟩ a0.n l1 s2 w3 → Kp w w0 w3 ∧
 R (.returned s2) w3)
theorem gu.vc {a0 w} (h : gu.pre a0 w R) : Calls Tryz.prog a6 #[a0] w R :=
 cq ⟨[], [], []⟩ Tryz.func162 h
def tN.pre (a0 a1_0 a1_1 : Int) (w : World) (R : Ending → World → Prop) : Prop :=
 ∀ w0 : World, w0 = w.alloc (.cells #[a0] 3) →
 ∀ w1 : World, w1 = w0.alloc (.cells #[a1_0, a1_1] 89) →
 R (.returned (.func (.func 206) #[] #[.pointer (some ⟨w0, 0, none⟩), .pointer (some ⟨w, 0, none⟩)])) w1
theorem tN.vc {a0 a1_0 a1_1 w} (h : tN.pre a0 a1_0 a1_1 w R) : Calls Tryz.prog oy #[a0, .agg #[a1_0, a1_1]] w R :=
 cq ⟨[], [], []⟩ Tryz.func163 h
def Am.pre (a0 : Sl) (w : World) (R : Ending → World → Prop) : Prop :=
 ∃ I0 : Nat → Int → Sl → World → Prop,
 (∃ n1, I0 n1 (0) ⟨none, 0, 0⟩ w) ∧
 ∀ (n1 : Nat) (us2 : Nat → Value) (x3 : Int) (s4 : Sl) (w5 : World), I0 n1 x3 s4 w5 →
 Br (decide (x3 < ((a0.n : Nat) : Int)))
 (bA a0.a x3 a0.n ∧ ∃ (x7 : Int), ld w5 (ab a0.a ((x3 : Int).toNat * 1)) = some (.int .i64 x7) ∧
 Calls Tryz.prog dU #[s4, .agg #[(1:Int), x7]] w5 (fun e w8 => ∃ (s9 : Sl), e = .returned s9 ∧
 ∃ n6, n6 < n1 ∧ I0 n6 ((IntKind.wrap .i64 (x3 + 1))) s9 w8))
 (R (.returned s4) w5)
theorem Am.vc {a0 w} (h : Am.pre a0 w R) : Calls Tryz.prog tE #[a0] w R :=
 cq ⟨[(3, ⟨[(8, .int .i64), (3, .slice)], [], []⟩)], [], []⟩ Tryz.func164 h
def im.pre (a0 : Sl) (w : World) (R : Ending → World → Prop) : Prop :=
 (0 : Int) ≤ ((a0.n : Nat) : Int) ∧ ((a0.n : Nat) : Int) ≤ ((a0.c : Nat) : Int) ∧ (0 : Int) ≤ ((a0.n : Nat) : Int) ∧ (((a0.n : Nat) : Int) : Int) ≤ ((a0.n : Nat) : Int) ∧ R (.returned (.slice (ai a0.a (0) ((((a0.n : Nat) : Int) : Int).toNat) 1) ((((a0.n : Nat) : Int) : Int).toNat - 0) ((((a0.n : Nat) : Int) : Int).toNat - 0))) w
theorem im.vc {a0 w} (h : im.pre a0 w R) : Calls Tryz.prog fE #[a0] w R :=
 cq ⟨[], [], []⟩ Tryz.func165 h
def my.pre (a0 : Sl) (w : World) (R : Ending → World → Prop) : Prop :=
 ∃ I0 : Nat → Int → Int → Int → World → Prop,
 (∃ n1, I0 n1 (0) (0) (1) w) ∧
 ∀ (n1 : Nat) (us2 : Nat → Value) (x3 x4 x5 : Int) (w6 : World), I0 n1 x3 x4 x5 w6 →
 Br (decide (x3 < 3))
 (Br (decide (x3 ≥ ((a0.n : Nat) : Int)))
 (R (.returned (.tuple #[(0:Int), (0:Int), (3:Int)])) w6)
 (bA a0.a x3 a0.n ∧ ∃ (x8 : Int), ld w6 (ab a0.a ((x3 : Int).toNat * 1)) = some (.int .u8 x8) ∧
 Br (decide (((IntKind.wrap .i64 x8) : Int) ≥ 128))
 (∃ n7, n7 < n1 ∧ I0 n7 ((IntKind.wrap .i64 (x3 + 1))) ((IntKind.wrap .i64 (x4 + (IntKind.wrap .i64 ((Int.tmod (IntKind.wrap .i64 x8) 128) * x5))))) ((IntKind.wrap .i64 (x5 * 128))) w6)
 (Br (((IntKind.wrap .i64 x8) : Int) == 0)
 (Br (decide (x3 > 0))
 (R (.returned (.tuple #[(0:Int), (0:Int), (2:Int)])) w6)
 (Br (decide (((IntKind.wrap .i64 (x4 + (IntKind.wrap .i64 ((Int.tmod (IntKind.wrap .i64 x8) 128) * x5)))) : Int) > 1048576))
 (R (.returned (.tuple #[(0:Int), (0:Int), (2:Int)])) w6)
 (R (.returned (.tuple #[(IntKind.wrap .i64 (x4 + (IntKind.wrap .i64 ((Int.tmod (IntKind.wrap .i64 x8) 128) * x5)))), (IntKind.wrap .i64 (x3 + 1)), (0:Int)])) w6)))
 (Br (decide (((IntKind.wrap .i64 (x4 + (IntKind.wrap .i64 ((Int.tmod (IntKind.wrap .i64 x8) 128) * x5)))) : Int) > 1048576))
 (R (.returned (.tuple #[(0:Int), (0:Int), (2:Int)])) w6)
 (R (.returned (.tuple #[(IntKind.wrap .i64 (x4 + (IntKind.wrap .i64 ((Int.tmod (IntKind.wrap .i64 x8) 128) * x5)))), (IntKind.wrap .i64 (x3 + 1)), (0:Int)])) w6)))))
 (R (.returned (.tuple #[(0:Int), (0:Int), (2:Int)])) w6)
theorem my.vc {a0 w} (h : my.pre a0 w R) : Calls Tryz.prog fK #[a0] w R :=
 cq ⟨[(4, ⟨[(7, .int .i64), (5, .int .i64), (6, .int .i64)], [], []⟩)], [], []⟩ Tryz.func173 h
def qv.pre (a0_0 a0_1 a1 : Int) (w : World) (R : Ending → World → Prop) : Prop :=
 ∀ w0 : World, w0 = w.alloc (.cells #[a0_0, a0_1] 89) →
 ∀ w1 : World, w1 = w0.alloc (.cells #[(0:Int), (0:Int), (0:Int)] 23) →
 Br (decide (a1 < 0))
 (∀ w2 : World, w2 = w1.setRow w0 #[(0:Int), (0:Int), (0:Int)] →
 R (.returned (.tuple #[.agg #[(0:Int), (0:Int), (0:Int)], .bool false])) w2)
 (Br (decide (a1 > 8191))
 (∀ w3 : World, w3 = w1.setRow w0 #[(0:Int), (0:Int), (0:Int)] →
 R (.returned (.tuple #[.agg #[(0:Int), (0:Int), (0:Int)], .bool false])) w3)
 (∀ w4 : World, w4 = w1.setRow w0 #[(IntKind.wrap .i64 ((IntKind.wrap .i64 (a0_0 * 16)) + (Int.tmod a1 16))), (IntKind.wrap .i64 (Int.tdiv a1 256)), (IntKind.wrap .i64 ((IntKind.wrap .i64 (a0_1 * 16)) + (IntKind.wrap .i64 (Int.tdiv (Int.tmod a1 256) 16))))] →
 R (.returned (.tuple #[.agg #[(IntKind.wrap .i64 ((IntKind.wrap .i64 (a0_0 * 16)) + (Int.tmod a1 16))), (IntKind.wrap .i64 (Int.tdiv a1 256)), (IntKind.wrap .i64 ((IntKind.wrap .i64 (a0_1 * 16)) + (IntKind.wrap .i64 (Int.tdiv (Int.tmod a1 256) 16))))], .bool true])) w4))
theorem qv.vc {a0_0 a0_1 a1 w} (h : qv.pre a0_0 a0_1 a1 w R) : Calls Tryz.prog lX #[.agg #[a0_0, a0_1], a1] w R :=
 cq ⟨[], [], []⟩ Tryz.func174 h
def nX.pre (a0 a1_0 a1_1 a1_2 : Int) (w : World) (R : Ending → World → Prop) : Prop :=
 ∀ w0 : World, w0 = w.alloc (.cells #[a1_0, a1_1, a1_2] 23) →
 Calls Tryz.prog jB #[a0, a1_0, a1_2] w0 (fun e w1 => ∃ (x2 : Int), e = .returned x2 ∧ Kp w w0 w1 ∧
 Br (decide (a1_1 < 0))
 (R (.returned (0:Int)) w1)
 (Br (decide (a1_1 > 31))
 (R (.returned (0:Int)) w1)
 (Br (a1_1 == 0)
 (R (.returned (1:Int)) w1)
 (Br (decide (a1_1 < (IntKind.wrap .i64 (x2 - 3))))
 (R (.returned (1:Int)) w1)
 (Br (decide (a1_1 < (IntKind.wrap .i64 (x2 - 1))))
 (R (.returned (2:Int)) w1)
 (Br (a1_1 == (IntKind.wrap .i64 (x2 - 1)))
 (Br (decide (x2 ≤ 9))
 (R (.returned (3:Int)) w1)
 (R (.returned (2:Int)) w1))
 (Br (decide (a1_1 < 9))
 (R (.returned (8:Int)) w1)
 (R (.returned (0:Int)) w1))))))))
theorem nX.vc {a0 a1_0 a1_1 a1_2 w} (h : nX.pre a0 a1_0 a1_1 a1_2 w R) : Calls Tryz.prog kN #[a0, .agg #[a1_0, a1_1, a1_2]] w R :=
 cq ⟨[], [], []⟩ Tryz.func175 h
def wx.pre (a0 : Sl) (w : World) (R : Ending → World → Prop) : Prop :=
 ∃ I0 : Nat → Int → Sl → World → Prop,
 (∃ n1, I0 n1 (0) ⟨none, 0, 0⟩ w) ∧
 ∀ (n1 : Nat) (us2 : Nat → Value) (x3 : Int) (s4 : Sl) (w5 : World), I0 n1 x3 s4 w5 →
 Br (decide (x3 < ((a0.n : Nat) : Int)))
 (Br (decide (x3 > 0))
 (bA a0.a (IntKind.wrap .i64 (x3 - 1)) a0.n ∧ ∃ (x7 : Int), ld w5.drew (ab a0.a (((IntKind.wrap .i64 (x3 - 1)) : Int).toNat * 1)) = some (.int .i64 x7) ∧
 bA a0.a x3 a0.n ∧ ∃ (x8 : Int), ld w5.drew (ab a0.a ((x3 : Int).toNat * 1)) = some (.int .i64 x8) ∧
 Br (x7 == x8)
 (bA s4.a (IntKind.wrap .i64 (((s4.n : Nat) : Int) - 1)) s4.n ∧ aK (ep (ab s4.a (((IntKind.wrap .i64 (((s4.n : Nat) : Int) - 1)) : Int).toNat * 2))) (∃ (x9 : Int), ld w5.drew (ab (ab s4.a (((IntKind.wrap .i64 (((s4.n : Nat) : Int) - 1)) : Int).toNat * 2)) 0) = some (.int .i64 x9) ∧
 bA s4.a (IntKind.wrap .i64 (((s4.n : Nat) : Int) - 1)) s4.n ∧ aK (ep (ab s4.a (((IntKind.wrap .i64 (((s4.n : Nat) : Int) - 1)) : Int).toNat * 2))) ((((ab (ab s4.a (((IntKind.wrap .i64 (((s4.n : Nat) : Int) - 1)) : Int).toNat * 2)) 0)).isSome = true ∧ Wr w5.drew (ab (ab s4.a (((IntKind.wrap .i64 (((s4.n : Nat) : Int) - 1)) : Int).toNat * 2)) 0) 1) ∧ (∀ w10 : World, w10 = aB w5.drew (ab (ab s4.a (((IntKind.wrap .i64 (((s4.n : Nat) : Int) - 1)) : Int).toNat * 2)) 0) [(IntKind.wrap .i64 (x9 + 1))] →
 ∃ n6, n6 < n1 ∧ I0 n6 ((IntKind.wrap .i64 (x3 + 1))) s4 w10))))
 (bA a0.a x3 a0.n ∧ ∃ (x11 : Int), ld w5.drew (ab a0.a ((x3 : Int).toNat * 1)) = some (.int .i64 x11) ∧
 ∀ w12 : World, w12 = w5.drew.alloc (.cells #[(1:Int), x11] 166) →
 au 16 2 w12 s4 1 [(1:Int), x11] ∧ ∀ (s13 : Sl) (w14 : World), aq 166 2 w12 s4 1 [(1:Int), x11] s13 w14 → w14.heap[w5.drew.heap.size]? = w12.heap[w5.drew.heap.size]? ∧
 ∃ n6, n6 < n1 ∧ I0 n6 ((IntKind.wrap .i64 (x3 + 1))) s13 w14))
 (bA a0.a x3 a0.n ∧ ∃ (x15 : Int), ld w5.drew (ab a0.a ((x3 : Int).toNat * 1)) = some (.int .i64 x15) ∧
 ∀ w16 : World, w16 = w5.drew.alloc (.cells #[(1:Int), x15] 166) →
 au 16 2 w16 s4 1 [(1:Int), x15] ∧ ∀ (s17 : Sl) (w18 : World), aq 166 2 w16 s4 1 [(1:Int), x15] s17 w18 → w18.heap[w5.drew.heap.size]? = w16.heap[w5.drew.heap.size]? ∧
 ∃ n6, n6 < n1 ∧ I0 n6 ((IntKind.wrap .i64 (x3 + 1))) s17 w18))
 (R (.returned s4) w5)
theorem wx.vc {a0 w} (h : wx.pre a0 w R) : Calls Tryz.prog dP #[a0] w R :=
 cq ⟨[(3, ⟨[(4, .int .i64), (3, .slice)], [], []⟩)], [], []⟩ Tryz.func176 h
def gh.pre (a0 : Sl) (a1_0 a1_1 : Int) (w : World) (R : Ending → World → Prop) : Prop :=
 ∀ w0 : World, w0 = w.alloc (.cells #[a1_0, a1_1] 89) →
 ∃ I1 : Nat → Int → World → Prop,
 (∃ n2, aT [a1_0, a1_1] ∧ I1 n2 (0) w0) ∧
 ∀ (n2 : Nat) (us3 : Nat → Value) (x4 : Int) (w5 : World), I1 n2 x4 w5 →
 Br (decide (x4 < ((a0.n : Nat) : Int)))
 (bA a0.a x4 a0.n ∧ ∃ (x7 x8 : Int), ah w5.drew (ab a0.a ((x4 : Int).toNat * 2)) 0 [x7, x8] ∧
 Br ((a1_0 == x7) && (a1_1 == x8))
 (R (.returned x4) w5.drew)
 (∃ n6, n6 < n2 ∧ aT [a1_0, a1_1] ∧ I1 n6 ((IntKind.wrap .i64 (x4 + 1))) w5.drew))
 (R (.returned (.int .i64 (-1))) w5)
theorem gh.vc {a0 a1_0 a1_1 w} (h : gh.pre a0 a1_0 a1_1 w R) : Calls Tryz.prog eP #[a0, .agg #[a1_0, a1_1]] w R :=
 cq ⟨[(2, ⟨[(8, .int .i64)], [], []⟩)], [], []⟩ Tryz.func184 h
def mz.pre (a0 : Int) (w : World) (R : Ending → World → Prop) : Prop :=
 Br (a0 == 0)
 (R (.returned (.bool true)) w)
 (Calls Tryz.prog ke #[a0] w (fun e w0 => ∃ (b1 : Bool), e = .returned (.bool b1) ∧
 R (.returned (.bool b1)) w0))
theorem mz.vc {a0 w} (h : mz.pre a0 w R) : Calls Tryz.prog oz #[a0] w R :=
 cq ⟨[], [], []⟩ Tryz.func185 h
def kh.pre (a0 : Int) (w : World) (R : Ending → World → Prop) : Prop :=
 R (.returned ((IntKind.wrap .i64 (8 + (if 7 < (if 0 > a0 then 0 else a0) then 7 else (if 0 > a0 then 0 else a0)))))) w
theorem kh.vc {a0 w} (h : kh.pre a0 w R) : Calls Tryz.prog pX #[a0] w R :=
 cq ⟨[], [], []⟩ Tryz.func187 h
def tn.pre (a0 : Sl) (a1 a2 : Int) (w : World) (R : Ending → World → Prop) : Prop :=
 Calls Tryz.prog kL #[a0] w (fun e w0 => ∃ (s1 : Sl), e = .returned s1 ∧
 Calls Tryz.prog hM #[a2] w0 (fun e w2 => ∃ (b3 : Bool), e = .returned (.bool b3) ∧
 Br b3
 (Br (decide (a1 ≥ 0))
 (Br (decide (a1 < ((s1.n : Nat) : Int)))
 (bA s1.a a1 s1.n ∧ (((ab s1.a ((a1 : Int).toNat * 1))).isSome = true ∧ Wr w2 (ab s1.a ((a1 : Int).toNat * 1)) 1) ∧ (∀ w4 : World, w4 = aB w2 (ab s1.a ((a1 : Int).toNat * 1)) [a2] →
 Calls Tryz.prog dP #[s1] w4 (fun e w5 => ∃ (s6 : Sl), e = .returned s6 ∧
 R (.returned s6) w5)))
 (Calls Tryz.prog dP #[s1] w2 (fun e w7 => ∃ (s8 : Sl), e = .returned s8 ∧
 R (.returned s8) w7)))
 (Calls Tryz.prog dP #[s1] w2 (fun e w9 => ∃ (s10 : Sl), e = .returned s10 ∧
 R (.returned s10) w9)))
 (Calls Tryz.prog dP #[s1] w2 (fun e w11 => ∃ (s12 : Sl), e = .returned s12 ∧
 R (.returned s12) w11))))
theorem tn.vc {a0 a1 a2 w} (h : tn.pre a0 a1 a2 w R) : Calls Tryz.prog nV #[a0, a1, a2] w R :=
 cq ⟨[], [], []⟩ Tryz.func189 h
def oF.pre  (w : World) (R : Ending → World → Prop) : Prop :=
 ∀ w0 : World, w0 = w.alloc (.cells #[.string (ByteArray.mk #[]), .string (ByteArray.mk #[]), .string (ByteArray.mk #[]), .string (ByteArray.mk #[]), .string (ByteArray.mk #[]), .string (ByteArray.mk #[]), .string (ByteArray.mk #[]), .string (ByteArray.mk #[]), .string (ByteArray.mk #[]), .string (ByteArray.mk #[]), .string (ByteArray.mk #[]), .string (ByteArray.mk #[]), .string (ByteArray.mk #[]), .string (ByteArray.mk #[]), .string (ByteArray.mk #[]), .string (ByteArray.mk #[])] 254) →
 ∀ w1 : World, w1 = w0.alloc (.cells #[.string (ByteArray.mk #[]), .string (ByteArray.mk #[]), .string (ByteArray.mk #[]), .string (ByteArray.mk #[]), .string (ByteArray.mk #[]), .string (ByteArray.mk #[]), .string (ByteArray.mk #[]), .string (ByteArray.mk #[]), .string (ByteArray.mk #[]), .string (ByteArray.mk #[]), .string (ByteArray.mk #[]), .string (ByteArray.mk #[]), .string (ByteArray.mk #[]), .string (ByteArray.mk #[]), .string (ByteArray.mk #[]), .string (ByteArray.mk #[])] 254) →
 (true = true ∧ Wr w1 (some ⟨w0, 0, none⟩) 16) ∧ (∀ w2 : World, w2 = aB w1 (some ⟨w0, 0, none⟩) [.string (ByteArray.mk #[97, 105, 114]), .string (ByteArray.mk #[115, 116, 111, 110, 101]), .string (ByteArray.mk #[100, 105, 114, 116]), .string (ByteArray.mk #[115, 97, 110, 100]), .string (ByteArray.mk #[108, 97, 100, 100, 101, 114]), .string (ByteArray.mk #[103, 108, 97, 115, 115]), .string (ByteArray.mk #[]), .string (ByteArray.mk #[]), .string (ByteArray.mk #[]), .string (ByteArray.mk #[]), .string (ByteArray.mk #[]), .string (ByteArray.mk #[]), .string (ByteArray.mk #[]), .string (ByteArray.mk #[]), .string (ByteArray.mk #[]), .string (ByteArray.mk #[])] →
 ∃ I3 : Nat → Int → World → Prop,
 (∃ n4, I3 n4 (0) w2) ∧
 ∀ (n4 : Nat) (us5 : Nat → Value) (x6 : Int) (w7 : World), I3 n4 x6 w7 →
 Br (decide (x6 < 8))
 (Calls Tryz.prog jJ #[x6] w7 (fun e w9 => ∃ (t10 : ByteArray), e = .returned (.string t10) ∧
 ((((ByteArray.mk #[119, 97, 116, 101, 114])).size + (t10).size : Nat) : Int) ≤ IntKind.i64.max ∧ (0 : Int) ≤ (IntKind.wrap .i64 (8 + x6)) ∧ ((IntKind.wrap .i64 (8 + x6)) : Int) < ((16 : Nat) : Int) ∧ (true = true ∧ Wr w9 (ab (some ⟨w0, 0, none⟩) (((IntKind.wrap .i64 (8 + x6)) : Int).toNat * 1)) 1) ∧ (∀ w11 : World, w11 = aB w9 (ab (some ⟨w0, 0, none⟩) (((IntKind.wrap .i64 (8 + x6)) : Int).toNat * 1)) [.string ((ByteArray.mk #[119, 97, 116, 101, 114]) ++ t10)] →
 ∃ n8, n8 < n4 ∧ I3 n8 ((IntKind.wrap .i64 (x6 + 1))) w11)))
 (∃ (t12 t13 t14 t15 t16 t17 t18 t19 t20 t21 t22 t23 t24 t25 t26 t27 : ByteArray), ah w7 (some ⟨w0, 0, none⟩) 0 [.string t12, .string t13, .string t14, .string t15, .string t16, .string t17, .string t18, .string t19, .string t20, .string t21, .string t22, .string t23, .string t24, .string t25, .string t26, .string t27] ∧
 (true = true ∧ Wr w7 (some ⟨w, 0, none⟩) 16) ∧ (∀ w28 : World, w28 = aB w7 (some ⟨w, 0, none⟩) [.string t12, .string t13, .string t14, .string t15, .string t16, .string t17, .string t18, .string t19, .string t20, .string t21, .string t22, .string t23, .string t24, .string t25, .string t26, .string t27] →
 ∃ (t29 t30 t31 t32 t33 t34 t35 t36 t37 t38 t39 t40 t41 t42 t43 t44 : ByteArray), ah w28 (some ⟨w, 0, none⟩) 0 [.string t29, .string t30, .string t31, .string t32, .string t33, .string t34, .string t35, .string t36, .string t37, .string t38, .string t39, .string t40, .string t41, .string t42, .string t43, .string t44] ∧
 R (.returned (.agg #[.string t29, .string t30, .string t31, .string t32, .string t33, .string t34, .string t35, .string t36, .string t37, .string t38, .string t39, .string t40, .string t41, .string t42, .string t43, .string t44])) w28)))
theorem oF.vc {w} (h : oF.pre  w R) : Calls Tryz.prog kV #[] w R :=
 cq ⟨[(3, ⟨[(4, .int .i64)], [], []⟩)], [], []⟩ Tryz.func190 h
def wO.pre (a0 : Sl) (w : World) (R : Ending → World → Prop) : Prop :=
 ∃ I0 : Nat → Int → Int → World → Prop,
 (∃ n1, I0 n1 (0) (0) w) ∧
 ∀ (n1 : Nat) (us2 : Nat → Value) (x3 x4 : Int) (w5 : World), I0 n1 x3 x4 w5 →
 Br (decide (x3 < ((a0.n : Nat) : Int)))
 (bA a0.a x3 a0.n ∧ ∃ (x7 x8 : Int), ah w5 (ab a0.a ((x3 : Int).toNat * 2)) 0 [x7, x8] ∧
 ∀ w9 : World, w9 = w5.alloc (.cells #[(0:Int), (0:Int)] 166) →
 ∀ w10 : World, w10 = w9.setRow w5 #[x7, x8] →
 ∃ n6, n6 < n1 ∧ I0 n6 ((IntKind.wrap .i64 (x3 + 1))) ((IntKind.wrap .i64 (x4 + x7))) w10)
 (R (.returned x4) w5)
theorem wO.vc {a0 w} (h : wO.pre a0 w R) : Calls Tryz.prog jH #[a0] w R :=
 cq ⟨[(3, ⟨[(8, .int .i64), (3, .int .i64)], [], []⟩)], [], []⟩ Tryz.func191 h
def tO.pre (a0 : Sl) (a1 a2 a3 : Int) (w : World) (R : Ending → World → Prop) : Prop :=
 Calls Tryz.prog jH #[a0] w (fun e w0 => ∃ (x1 : Int), e = .returned x1 ∧
 Calls Tryz.prog dT #[a3] w0 (fun e w2 => ∃ (b3 : Bool), e = .returned (.bool b3) ∧
 Br (!b3)
 (Calls Tryz.prog a6 #[a0] w2 (fun e w4 => ∃ (s5 : Sl), e = .returned s5 ∧
 R (.returned s5) w4))
 (Br (decide (((if x1 < (if 0 > a1 then 0 else a1) then x1 else (if 0 > a1 then 0 else a1)) : Int) ≥ (if x1 < (if 0 > a2 then 0 else a2) then x1 else (if 0 > a2 then 0 else a2))))
 (Calls Tryz.prog a6 #[a0] w2 (fun e w6 => ∃ (s7 : Sl), e = .returned s7 ∧
 R (.returned s7) w6))
 (Calls Tryz.prog mr #[a0, (0:Int), .int .i64 (if x1 < (if 0 > a1 then 0 else a1) then x1 else (if 0 > a1 then 0 else a1))] w2 (fun e w8 => ∃ (s9 : Sl), e = .returned s9 ∧
 Calls Tryz.prog oC #[(IntKind.wrap .i64 ((if x1 < (if 0 > a2 then 0 else a2) then x1 else (if 0 > a2 then 0 else a2)) - (if x1 < (if 0 > a1 then 0 else a1) then x1 else (if 0 > a1 then 0 else a1)))), a3] w8 (fun e w10 => ∃ (s11 : Sl), e = .returned s11 ∧
 Calls Tryz.prog mr #[a0, .int .i64 (if x1 < (if 0 > a2 then 0 else a2) then x1 else (if 0 > a2 then 0 else a2)), x1] w10 (fun e w12 => ∃ (s13 : Sl), e = .returned s13 ∧
 ∀ w14 : World, w14 = w12.alloc (.cells #[s9, s11, s13] 106) →
 Calls Tryz.prog oB #[.slice (some ⟨w12, 0, none⟩) 3 3] w14 (fun e w15 => ∃ (s16 : Sl), e = .returned s16 ∧
 R (.returned s16) w15))))))))
theorem tO.vc {a0 a1 a2 a3 w} (h : tO.pre a0 a1 a2 a3 w R) : Calls Tryz.prog oA #[a0, a1, a2, a3] w R :=
 cq ⟨[], [], []⟩ Tryz.func192 h
def qN.pre (a0 : Sl) (w : World) (R : Ending → World → Prop) : Prop :=
 ∃ I0 : Nat → Int → Int → World → Prop,
 (∃ n1, I0 n1 (0) (1048576) w) ∧
 ∀ (n1 : Nat) (us2 : Nat → Value) (x3 x4 : Int) (w5 : World), I0 n1 x3 x4 w5 →
 Br (decide (x3 < ((a0.n : Nat) : Int)))
 (bA a0.a x3 a0.n ∧ ∃ (x7 x8 : Int), ah w5 (ab a0.a ((x3 : Int).toNat * 2)) 0 [x7, x8] ∧
 ∀ w9 : World, w9 = w5.alloc (.cells #[(0:Int), (0:Int)] 166) →
 ∀ w10 : World, w10 = w9.setRow w5 #[x7, x8] →
 Br (decide (x7 < 1))
 (R (.returned (.tuple #[.slice none 0 0, (1:Int)])) w10)
 (Br (decide (((IntKind.wrap .i64 (x4 - x7)) : Int) < 0))
 (R (.returned (.tuple #[.slice none 0 0, (1:Int)])) w10)
 (∃ n6, n6 < n1 ∧ I0 n6 ((IntKind.wrap .i64 (x3 + 1))) ((IntKind.wrap .i64 (x4 - x7))) w10)))
 (Calls Tryz.prog jH #[a0] w5 (fun e w11 => ∃ (x12 : Int), e = .returned x12 ∧
 Calls Tryz.prog mo #[a0, x12] w11 (fun e w13 => ∃ (b14 : Bool), e = .returned (.bool b14) ∧
 Br (!b14)
 (R (.returned (.tuple #[.slice none 0 0, (1:Int)])) w13)
 (∃ I15 : Nat → Int → Sl → World → Prop,
 (∃ n16, I15 n16 (0) ⟨none, 0, 0⟩ w13) ∧
 ∀ (n16 : Nat) (us17 : Nat → Value) (x18 : Int) (s19 : Sl) (w20 : World), I15 n16 x18 s19 w20 →
 Br (decide (x18 < ((a0.n : Nat) : Int)))
 (bA a0.a x18 a0.n ∧ ∃ (x22 x23 : Int), ah w20 (ab a0.a ((x18 : Int).toNat * 2)) 0 [x22, x23] ∧
 ∀ w24 : World, w24 = w20.alloc (.cells #[(0:Int), (0:Int)] 166) →
 ∀ w25 : World, w25 = w24.setRow w20 #[x22, x23] →
 ∀ w26 : World, w26 = w25.drew.alloc (.cells #[.int .u8 (IntKind.wrap .u8 x23)] 5) →
 au 1 1 w26 s19 1 [.int .u8 (IntKind.wrap .u8 x23)] ∧ ∀ (s27 : Sl) (w28 : World), aq 5 1 w26 s19 1 [.int .u8 (IntKind.wrap .u8 x23)] s27 w28 → w28.heap[w20.heap.size]? = w26.heap[w20.heap.size]? ∧ w28.heap[w25.drew.heap.size]? = w26.heap[w25.drew.heap.size]? ∧
 ah w28 (some ⟨w20, 0, none⟩) 0 [x22] ∧ ah w28 (some ⟨w20, 1, none⟩) 0 [x23] ∧ Calls Tryz.prog kW #[x22] w28 (fun e w29 => ∃ (s30 : Sl), e = .returned s30 ∧ w29.heap[w20.heap.size]? = w28.heap[w20.heap.size]? ∧ w29.heap[w25.drew.heap.size]? = w28.heap[w25.drew.heap.size]? ∧
 ah w29 (some ⟨w20, 1, none⟩) 0 [x23] ∧ ∃ l31 : List Value, Rd w29 s30.a l31 ∧ au 1 1 w29 s27 s30.n l31 ∧ ∀ (s32 : Sl) (w33 : World), aq 5 1 w29 s27 s30.n l31 s32 w33 → w33.heap[w20.heap.size]? = w29.heap[w20.heap.size]? ∧ w33.heap[w25.drew.heap.size]? = w29.heap[w25.drew.heap.size]? ∧
 ah w33 (some ⟨w20, 1, none⟩) 0 [x23] ∧ ∃ n21, n21 < n16 ∧ I15 n21 ((IntKind.wrap .i64 (x18 + 1))) s32 w33))
 (R (.returned (.tuple #[s19, (0:Int)])) w20)))))
theorem qN.vc {a0 w} (h : qN.pre a0 w R) : Calls Tryz.prog mq #[a0] w R :=
 cq ⟨[(13, ⟨[(35, .int .i64), (7, .slice)], [], []⟩), (3, ⟨[(12, .int .i64), (4, .int .i64)], [], []⟩)], [], []⟩ Tryz.func196 h
def je.pre (a0 a1 : Int) (w : World) (R : Ending → World → Prop) : Prop :=
 Br (decide (a0 < 0))
 (aK (FQ a1) (R (.returned (.int .i64 (Int.tmod (IntKind.wrap .i64 (0 - (IntKind.wrap .i64 (a0 + 1)))) a1))) w))
 (aK (FQ a1) (R (.returned (.int .i64 (Int.tmod a0 a1))) w))
theorem je.vc {a0 a1 w} (h : je.pre a0 a1 w R) : Calls Tryz.prog jI #[a0, a1] w R :=
 cq ⟨[], [], []⟩ Tryz.func19 h
def kY.pre (a0 : Addr) (w : World) (R : Ending → World → Prop) : Prop :=
 ∃ (m0 : Option Nat), ld w (ab (some a0) 3) = some (.map m0) ∧
 Calls Tryz.prog fL #[.map m0] w (fun e w1 => ∃ (m2 : Option Nat), e = .returned (.map m2) ∧
 ∃ (s3 : Sl), ld w1 (ab (some a0) 4) = some (.slice s3.a s3.n s3.c) ∧
 ∃ I4 : Nat → Int → World → Prop,
 (∃ n5, I4 n5 (0) w1) ∧
 ∀ (n5 : Nat) (us6 : Nat → Value) (x7 : Int) (w8 : World), I4 n5 x7 w8 →
 Br (decide (x7 < ((s3.n : Nat) : Int)))
 (bA s3.a x7 s3.n ∧ ∃ (x10 : Int) (s11 : Sl), ah w8 (ab s3.a ((x7 : Int).toNat * 2)) 0 [x10, s11] ∧
 ∀ w12 : World, w12 = w8.alloc (.cells #[(0:Int), .slice none 0 0] 289) →
 ∀ w13 : World, w13 = w12.setRow w8 #[x10, s11] →
 ∃ (G14 : Value → Prop) (kvs15 : List (Value × Value)), dV Tryz.prog 3 G14 ∧ (m2 : Option Nat).isSome = true ∧ aO G14 w13 m2 kvs15 ∧ G14 x10 ∧ ∀ w16 : World, Rec ((m2 : Option Nat).getD 0) w13 w16 → aO G14 w16 m2 (qO kvs15 x10 s11) →
 ∃ n9, n9 < n5 ∧ I4 n9 ((IntKind.wrap .i64 (x7 + 1))) w16)
 (R (.returned (.map m2)) w8))
theorem kY.vc {a0 w} (h : kY.pre a0 w R) : Calls Tryz.prog iz #[.pointer (some a0)] w R :=
 cq ⟨[(3, ⟨[(16, .int .i64)], [], []⟩)], [], []⟩ Tryz.func202 h
def fB.pre (a0 : Sl) (w : World) (R : Ending → World → Prop) : Prop :=
 Br (a0.a).isNone
 (R (.returned (.slice none 0 0)) w)
 (∀ w0 : World, w0 = w.alloc (.cells #[] 5) →
 ∃ l1 : List Value, Rd w0 a0.a l1 ∧ au 1 1 w0 ⟨(some ⟨w, 0, none⟩), 0, 0⟩ a0.n l1 ∧ ∀ (s2 : Sl) (w3 : World), aq 5 1 w0 ⟨(some ⟨w, 0, none⟩), 0, 0⟩ a0.n l1 s2 w3 → Kp w w0 w3 ∧
 R (.returned s2) w3)
theorem fB.vc {a0 w} (h : fB.pre a0 w R) : Calls Tryz.prog cM #[a0] w R :=
 cq ⟨[], [], []⟩ Tryz.func203 h
def vZ.pre (a0 : Sl) (w : World) (R : Ending → World → Prop) : Prop :=
 Br (decide ((((a0.n : Nat) : Int) : Int) < 2))
 (R (.returned (.tuple #[.slice none 0 0, (3:Int)])) w)
 (Calls Tryz.prog 237 #[a0] w (fun e w0 => ∃ (b1 : Bool), e = .returned (.bool b1) ∧
 Br (!b1)
 (R (.returned (.tuple #[.slice none 0 0, (4:Int)])) w0)
 ((0 : Int) ≤ (IntKind.wrap .i64 (((a0.n : Nat) : Int) - 2)) ∧ (IntKind.wrap .i64 (((a0.n : Nat) : Int) - 2)) ≤ ((a0.c : Nat) : Int) ∧ Calls Tryz.prog cM #[.slice (ai a0.a (0) (a0.c) 1) (((IntKind.wrap .i64 (((a0.n : Nat) : Int) - 2)) : Int).toNat - 0) (a0.c - 0)] w0 (fun e w2 => ∃ (s3 : Sl), e = .returned s3 ∧
 R (.returned (.tuple #[s3, (0:Int)])) w2))))
theorem vZ.vc {a0 w} (h : vZ.pre a0 w R) : Calls Tryz.prog qq #[a0] w R :=
 cq ⟨[], [], []⟩ Tryz.func204 h
def oG.pre (a0 : Value) (c0 : Addr) (c1 : Addr) (w : World) (R : Ending → World → Prop) : Prop :=
 ∀ w0 : World, w0 = w.alloc (.cells #[.int .i64 0, .int .i64 0, .int .i64 0, .int .i64 0, .int .i64 0, .int .i64 0, .int .i64 0, .int .i64 0, .int .i64 0, .int .i64 0, .int .i64 0, .int .i64 0, .int .i64 0, .int .i64 0, .int .i64 0, .int .i64 0, .int .i64 0, .int .i64 0, .int .i64 0, .int .i64 0, .int .i64 0, .int .i64 0, .int .i64 0, .int .i64 0, .int .i64 0, .int .i64 0, .int .i64 0, .int .i64 0, .int .i64 0, .int .i64 0, .int .i64 0, .int .i64 0, .int .i64 0, .int .i64 0, .int .i64 0, .int .i64 0, .int .i64 0, .int .i64 0, .int .i64 0, .int .i64 0, .int .i64 0, .int .i64 0, .int .i64 0, .int .i64 0, .int .i64 0, .int .i64 0, .int .i64 0, .int .i64 0, .int .i64 0, .int .i64 0, .int .i64 0, .int .i64 0, .int .i64 0, .int .i64 0, .int .i64 0, .int .i64 0, .int .i64 0, .int .i64 0, .int .i64 0, .int .i64 0, .int .i64 0, .int .i64 0, .int .i64 0, .int .i64 0, .int .i64 0, .int .i64 0, .int .i64 0, .int .i64 0, .int .i64 0, .int .i64 0, .int .i64 0, .int .i64 0, .int .i64 0, .int .i64 0, .int .i64 0, .int .i64 0, .int .i64 0, .int .i64 0, .int .i64 0, .int .i64 0, .int .i64 0, .int .i64 0, .int .i64 0, .int .i64 0, .int .i64 0, .int .i64 0, .int .i64 0, .int .i64 0, .int .i64 0, .int .i64 0, .int .i64 0, .int .i64 0, .int .i64 0, .int .i64 0, .int .i64 0, .int .i64 0, .int .i64 0, .int .i64 0, .int .i64 0, .int .i64 0, .int .i64 0, .int .i64 0, .int .i64 0, .int .i64 0, .int .i64 0, .int .i64 0, .int .i64 0, .int .i64 0, .int .i64 0, .int .i64 0, .int .i64 0, .int .i64 0, .int .i64 0, .int .i64 0, .int .i64 0, .int .i64 0, .int .i64 0, .int .i64 0, .int .i64 0, .int .i64 0, .int .i64 0, .int .i64 0, .int .i64 0, .int .i64 0, .int .i64 0, .int .i64 0, .int .i64 0, .int .i64 0, .int .i64 0, .int .i64 0, .int .i64 0, .int .i64 0, .int .i64 0, .int .i64 0, .int .i64 0, .int .i64 0, .int .i64 0, .int .i64 0, .int .i64 0, .int .i64 0, .int .i64 0, .int .i64 0, .int .i64 0, .int .i64 0, .int .i64 0, .int .i64 0, .int .i64 0, .int .i64 0, .int .i64 0, .int .i64 0, .int .i64 0, .int .i64 0, .int .i64 0, .int .i64 0, .int .i64 0, .int .i64 0, .int .i64 0, .int .i64 0, .int .i64 0, .int .i64 0, .int .i64 0, .int .i64 0, .int .i64 0, .int .i64 0, .int .i64 0, .int .i64 0, .int .i64 0, .int .i64 0, .int .i64 0, .int .i64 0, .int .i64 0, .int .i64 0, .int .i64 0, .int .i64 0, .int .i64 0, .int .i64 0, .int .i64 0, .int .i64 0, .int .i64 0, .int .i64 0, .int .i64 0, .int .i64 0, .int .i64 0, .int .i64 0, .int .i64 0, .int .i64 0, .int .i64 0, .int .i64 0, .int .i64 0, .int .i64 0, .int .i64 0, .int .i64 0, .int .i64 0, .int .i64 0, .int .i64 0, .int .i64 0, .int .i64 0, .int .i64 0, .int .i64 0, .int .i64 0, .int .i64 0, .int .i64 0, .int .i64 0, .int .i64 0, .int .i64 0, .int .i64 0, .int .i64 0, .int .i64 0, .int .i64 0, .int .i64 0, .int .i64 0, .int .i64 0, .int .i64 0, .int .i64 0, .int .i64 0, .int .i64 0, .int .i64 0, .int .i64 0, .int .i64 0, .int .i64 0, .int .i64 0, .int .i64 0, .int .i64 0, .int .i64 0, .int .i64 0, .int .i64 0, .int .i64 0, .int .i64 0, .int .i64 0, .int .i64 0, .int .i64 0, .int .i64 0, .int .i64 0, .int .i64 0, .int .i64 0, .int .i64 0, .int .i64 0, .int .i64 0, .int .i64 0, .int .i64 0, .int .i64 0, .int .i64 0, .int .i64 0, .int .i64 0, .int .i64 0, .int .i64 0, .int .i64 0, .int .i64 0, .int .i64 0, .int .i64 0, .int .i64 0, .int .i64 0, .int .i64 0, .int .i64 0, .int .i64 0, .int .i64 0] 267) →
 ∃ I1 : Nat → Int → World → Prop,
 (∃ n2, I1 n2 (0) w0) ∧
 ∀ (n2 : Nat) (us3 : Nat → Value) (x4 : Int) (w5 : World), I1 n2 x4 w5 →
 Br (decide ((x4 : Int) < 256))
 (∃ (x7 : Int) (x8 : Int), ah w5 (some c0) 0 [.int .i64 x7, .int .i64 x8] ∧
 Calls Tryz.prog nQ #[.agg #[.int .i64 x7, .int .i64 x8], .int .i64 x4] w5 (fun e w9 => ∃ (x10 : Int) (x11 : Int) (x12 : Int) (b13 : Bool), e = .returned (.tuple #[.agg #[.int .i64 x10, .int .i64 x11, .int .i64 x12], .bool b13]) ∧
 ∀ w14 : World, w14 = w9.alloc (.cells #[.int .i64 0, .int .i64 0, .int .i64 0] 23) →
 ∀ w15 : World, w15 = w14.setRow w9.heap.size #[.int .i64 x10, .int .i64 x11, .int .i64 x12] →
 ∃ (x16 : Int), ld w15 (some c1) = some (.int .i64 x16) ∧
 Calls Tryz.prog mc #[.int .i64 x16, .int .i64 x10, .int .i64 x12] w15 (fun e w17 => ∃ (x18 : Int), e = .returned (.int .i64 x18) ∧ w17.heap[w9.heap.size]? = w15.heap[w9.heap.size]? ∧
 (0 : Int) ≤ x4 ∧ (x4 : Int) < ((256 : Nat) : Int) ∧ (true = true ∧ Wr w17 (ab (some ⟨w.heap.size, 0, none⟩) ((x4 : Int).toNat * 1)) 1) ∧ bK (ab (some ⟨w.heap.size, 0, none⟩) ((x4 : Int).toNat * 1)) ≠ some w9.heap.size ∧ (∀ w19 : World, w19 = aB w17 (ab (some ⟨w.heap.size, 0, none⟩) ((x4 : Int).toNat * 1)) [.int .i64 x18] →
 ∃ n6, n6 < n2 ∧ I1 n6 ((IntKind.wrap .i64 (x4 + 1))) w19))))
 (∃ I20 : Nat → Int → World → Prop,
 (∃ n21, I20 n21 (0) w5) ∧
 ∀ (n21 : Nat) (us22 : Nat → Value) (x23 : Int) (w24 : World), I20 n21 x23 w24 →
 Br (decide ((x23 : Int) < 8192))
 ((0 : Int) ≤ (Int.tmod x23 256) ∧ ((Int.tmod x23 256) : Int) < ((256 : Nat) : Int) ∧ ∃ (x26 : Int), ld w24 (ab (some ⟨w.heap.size, 0, none⟩) (((Int.tmod x23 256) : Int).toNat * 1)) = some (.int .i64 x26) ∧
 Calls Tryz.prog wB #[.int .i64 (IntKind.wrap .i64 (Int.tdiv x23 256)), .int .i64 x26] w24 (fun e w27 => ∃ (x28 : Int), e = .returned (.int .i64 x28) ∧
 br Tryz.prog a0 [.int .i64 x28] w27 (fun e w29 => ∃ (b30 : Bool), e = .returned (.bool b30) ∧
 Br (!b30)
 (R (.returned (.tuple #[])) w29)
 (∃ n25, n25 < n21 ∧ I20 n25 ((IntKind.wrap .i64 (x23 + 1))) w29))))
 (R (.returned (.tuple #[])) w24))
theorem oG.vc {a0 c0 c1 w} (h : oG.pre a0 c0 c1 w R) : Calls Tryz.prog yu #[a0, .pointer (some c0), .pointer (some c1)] w R :=
 cq ⟨[(8, ⟨[(27, .int .i64)], [], []⟩), (2, ⟨[(9, .int .i64)], [], []⟩)], [], []⟩ Tryz.func206 h
def th.pre (a0_0 a0_1 a1 : Int) (w : World) (R : Ending → World → Prop) : Prop :=
 ∀ w0 : World, w0 = w.alloc (.cells #[a0_0, a0_1] 89) →
 ∀ w1 : World, w1 = w0.alloc (.cells #[(0:Int), (0:Int), (0:Int)] 23) →
 Br (decide (a1 < 0))
 (∀ w2 : World, w2 = w1.setRow w0 #[(0:Int), (0:Int), (0:Int)] →
 R (.returned (.tuple #[.agg #[(0:Int), (0:Int), (0:Int)], .bool false])) w2)
 (Br (decide (a1 ≥ 8192))
 (∀ w3 : World, w3 = w1.setRow w0 #[(0:Int), (0:Int), (0:Int)] →
 R (.returned (.tuple #[.agg #[(0:Int), (0:Int), (0:Int)], .bool false])) w3)
 (∀ w4 : World, w4 = w1.setRow w0 #[(IntKind.wrap .i64 ((IntKind.wrap .i64 (a0_0 * 16)) + (Int.tmod a1 16))), (IntKind.wrap .i64 (Int.tdiv a1 256)), (IntKind.wrap .i64 ((IntKind.wrap .i64 (a0_1 * 16)) + (Int.tmod (IntKind.wrap .i64 (Int.tdiv a1 16)) 16)))] →
 R (.returned (.tuple #[.agg #[(IntKind.wrap .i64 ((IntKind.wrap .i64 (a0_0 * 16)) + (Int.tmod a1 16))), (IntKind.wrap .i64 (Int.tdiv a1 256)), (IntKind.wrap .i64 ((IntKind.wrap .i64 (a0_1 * 16)) + (Int.tmod (IntKind.wrap .i64 (Int.tdiv a1 16)) 16)))], .bool true])) w4))
theorem th.vc {a0_0 a0_1 a1 w} (h : th.pre a0_0 a0_1 a1 w R) : Calls Tryz.prog nQ #[.agg #[a0_0, a0_1], a1] w R :=
 cq ⟨[], [], []⟩ Tryz.func207 h
def qC.pre (a0 a1 a2 : Int) (w : World) (R : Ending → World → Prop) : Prop :=
 ∀ w0 : World, w0 = w.alloc (.cells #[a0] 3) →
 Calls Tryz.prog gl #[a1, (8:Int)] w0 (fun e w1 => ∃ (x2 : Int), e = .returned x2 ∧ Kp w w0 w1 ∧
 Calls Tryz.prog gl #[a2, (8:Int)] w1 (fun e w3 => ∃ (x4 : Int), e = .returned x4 ∧ Kp w w1 w3 ∧
 Calls Tryz.prog gm #[a1, (8:Int)] w3 (fun e w5 => ∃ (x6 : Int), e = .returned x6 ∧ Kp w w3 w5 ∧
 Calls Tryz.prog gm #[a2, (8:Int)] w5 (fun e w7 => ∃ (x8 : Int), e = .returned x8 ∧ Kp w w5 w7 ∧
 Calls Tryz.prog cR #[x2, x4, (IntKind.wrap .i64 ((IntKind.wrap .i64 (8 - x6)) * (IntKind.wrap .i64 (8 - x8)))), .pointer (some ⟨w, 0, none⟩)] w7 (fun e w9 => ∃ (x10 : Int), e = .returned x10 ∧
 Calls Tryz.prog cR #[(IntKind.wrap .i64 (x2 + 1)), x4, (IntKind.wrap .i64 (x6 * (IntKind.wrap .i64 (8 - x8)))), .pointer (some ⟨w, 0, none⟩)] w9 (fun e w11 => ∃ (x12 : Int), e = .returned x12 ∧
 Calls Tryz.prog cR #[x2, (IntKind.wrap .i64 (x4 + 1)), (IntKind.wrap .i64 ((IntKind.wrap .i64 (8 - x6)) * x8)), .pointer (some ⟨w, 0, none⟩)] w11 (fun e w13 => ∃ (x14 : Int), e = .returned x14 ∧
 Calls Tryz.prog cR #[(IntKind.wrap .i64 (x2 + 1)), (IntKind.wrap .i64 (x4 + 1)), (IntKind.wrap .i64 (x6 * x8)), .pointer (some ⟨w, 0, none⟩)] w13 (fun e w15 => ∃ (x16 : Int), e = .returned x16 ∧
 R (.returned ((IntKind.wrap .i64 (6 + (IntKind.wrap .i64 (Int.tdiv (IntKind.wrap .i64 ((IntKind.wrap .i64 ((IntKind.wrap .i64 (x10 + x12)) + x14)) + x16)) 64)))))) w15))))))))
theorem qC.vc {a0 a1 a2 w} (h : qC.pre a0 a1 a2 w R) : Calls Tryz.prog mc #[a0, a1, a2] w R :=
 cq ⟨[], [], []⟩ Tryz.func208 h
def Ae.pre (a0 a1 : Int) (w : World) (R : Ending → World → Prop) : Prop :=
 Br (decide (a0 < 0))
 (R (.returned (0:Int)) w)
 (Br (decide (a0 ≥ 32))
 (R (.returned (0:Int)) w)
 (Br (a0 == 0)
 (R (.returned (1:Int)) w)
 (Br (decide (a0 < (IntKind.wrap .i64 (a1 - 3))))
 (R (.returned (1:Int)) w)
 (Br (decide (a0 < (IntKind.wrap .i64 (a1 - 1))))
 (R (.returned (2:Int)) w)
 (Br (a0 == (IntKind.wrap .i64 (a1 - 1)))
 (Br (decide (a1 > 9))
 (R (.returned (2:Int)) w)
 (Br (a0 == (IntKind.wrap .i64 (a1 - 1)))
 (R (.returned (3:Int)) w)
 (Br (decide (a0 < 9))
 (R (.returned (8:Int)) w)
 (R (.returned (0:Int)) w))))
 (Br (a0 == (IntKind.wrap .i64 (a1 - 1)))
 (R (.returned (3:Int)) w)
 (Br (decide (a0 < 9))
 (R (.returned (8:Int)) w)
 (R (.returned (0:Int)) w))))))))
theorem Ae.vc {a0 a1 w} (h : Ae.pre a0 a1 w R) : Calls Tryz.prog wB #[a0, a1] w R :=
 cq ⟨[], [], []⟩ Tryz.func209 h
def tP.pre (a0 : Sl) (a1_0 a1_1 : Int) (w : World) (R : Ending → World → Prop) : Prop :=
 ∀ w0 : World, w0 = w.alloc (.cells #[a1_0, a1_1] 166) →
 Br (decide (a1_0 < 1))
 (R (.returned a0) w0)
 (Br (decide (((IntKind.wrap .i64 (((a0.n : Nat) : Int) - 1)) : Int) ≥ 0))
 (bA a0.a (IntKind.wrap .i64 (((a0.n : Nat) : Int) - 1)) a0.n ∧ aK (ep (ab a0.a (((IntKind.wrap .i64 (((a0.n : Nat) : Int) - 1)) : Int).toNat * 2))) (∃ (x1 : Int), ld w0.drew (ab (ab a0.a (((IntKind.wrap .i64 (((a0.n : Nat) : Int) - 1)) : Int).toNat * 2)) 1) = some (.int .i64 x1) ∧
 Br (x1 == a1_1)
 (bA a0.a (IntKind.wrap .i64 (((a0.n : Nat) : Int) - 1)) a0.n ∧ aK (ep (ab a0.a (((IntKind.wrap .i64 (((a0.n : Nat) : Int) - 1)) : Int).toNat * 2))) (∃ (x2 : Int), ld w0.drew.drew (ab (ab a0.a (((IntKind.wrap .i64 (((a0.n : Nat) : Int) - 1)) : Int).toNat * 2)) 0) = some (.int .i64 x2) ∧
 bA a0.a (IntKind.wrap .i64 (((a0.n : Nat) : Int) - 1)) a0.n ∧ aK (ep (ab a0.a (((IntKind.wrap .i64 (((a0.n : Nat) : Int) - 1)) : Int).toNat * 2))) ((((ab (ab a0.a (((IntKind.wrap .i64 (((a0.n : Nat) : Int) - 1)) : Int).toNat * 2)) 0)).isSome = true ∧ Wr w0.drew.drew (ab (ab a0.a (((IntKind.wrap .i64 (((a0.n : Nat) : Int) - 1)) : Int).toNat * 2)) 0) 1) ∧ bK (ab (ab a0.a (((IntKind.wrap .i64 (((a0.n : Nat) : Int) - 1)) : Int).toNat * 2)) 0) ≠ some w.heap.size ∧ (∀ w3 : World, w3 = aB w0.drew.drew (ab (ab a0.a (((IntKind.wrap .i64 (((a0.n : Nat) : Int) - 1)) : Int).toNat * 2)) 0) [(IntKind.wrap .i64 (x2 + a1_0))] →
 R (.returned a0) w3))))
 (∀ w4 : World, w4 = w0.drew.alloc (.cells #[a1_0, a1_1] 166) →
 au 16 2 w4 a0 1 [a1_0, a1_1] ∧ ∀ (s5 : Sl) (w6 : World), aq 166 2 w4 a0 1 [a1_0, a1_1] s5 w6 → Kp w w4 w6 ∧ w6.heap[w0.drew.heap.size]? = w4.heap[w0.drew.heap.size]? ∧
 R (.returned s5) w6)))
 (∀ w7 : World, w7 = w0.drew.alloc (.cells #[a1_0, a1_1] 166) →
 au 16 2 w7 a0 1 [a1_0, a1_1] ∧ ∀ (s8 : Sl) (w9 : World), aq 166 2 w7 a0 1 [a1_0, a1_1] s8 w9 → Kp w w7 w9 ∧ w9.heap[w0.drew.heap.size]? = w7.heap[w0.drew.heap.size]? ∧
 R (.returned s8) w9))
theorem tP.vc {a0 a1_0 a1_1 w} (h : tP.pre a0 a1_0 a1_1 w R) : Calls Tryz.prog dU #[a0, .agg #[a1_0, a1_1]] w R :=
 cq ⟨[], [], []⟩ Tryz.func210 h
def me.pre (a0 a1 a2 : Int) (w : World) (R : Ending → World → Prop) : Prop :=
 ∃ I0 : Nat → Int → Int → World → Prop,
 (∃ n1, I0 n1 (0) (0) w) ∧
 ∀ (n1 : Nat) (us2 : Nat → Value) (x3 x4 : Int) (w5 : World), I0 n1 x3 x4 w5 →
 Br (decide (x3 < 2))
 (∃ I7 : Nat → Int → Int → World → Prop,
 (∃ n8, I7 n8 (0) x4 w5) ∧
 ∀ (n8 : Nat) (us9 : Nat → Value) (x10 x11 : Int) (w12 : World), I7 n8 x10 x11 w12 →
 Br (decide (x10 < 2))
 (Calls Tryz.prog fm #[a1, (8:Int)] w12 (fun e w14 => ∃ (x15 : Int), e = .returned x15 ∧
 Calls Tryz.prog fm #[a2, (8:Int)] w14 (fun e w16 => ∃ (x17 : Int), e = .returned x17 ∧
 Br (x3 == 0)
 (Br (x10 == 0)
 (Calls Tryz.prog bz #[a1, (8:Int)] w16 (fun e w18 => ∃ (x19 : Int), e = .returned x19 ∧
 Calls Tryz.prog bz #[a2, (8:Int)] w18 (fun e w20 => ∃ (x21 : Int), e = .returned x21 ∧
 Calls Tryz.prog eh #[a0, (IntKind.wrap .i64 (x19 + x3)), (IntKind.wrap .i64 (x21 + x10))] w20 (fun e w22 => ∃ (x23 : Int), e = .returned (.int .u64 x23) ∧
 ∃ n13, n13 < n8 ∧ I7 n13 ((IntKind.wrap .i64 (x10 + 1))) ((IntKind.wrap .i64 (x11 + (IntKind.wrap .i64 ((IntKind.wrap .i64 ((IntKind.wrap .i64 (8 - x15)) * (IntKind.wrap .i64 (8 - x17)))) * (IntKind.wrap .i64 (Int.tmod x23 9))))))) w22))))
 (Calls Tryz.prog bz #[a1, (8:Int)] w16 (fun e w24 => ∃ (x25 : Int), e = .returned x25 ∧
 Calls Tryz.prog bz #[a2, (8:Int)] w24 (fun e w26 => ∃ (x27 : Int), e = .returned x27 ∧
 Calls Tryz.prog eh #[a0, (IntKind.wrap .i64 (x25 + x3)), (IntKind.wrap .i64 (x27 + x10))] w26 (fun e w28 => ∃ (x29 : Int), e = .returned (.int .u64 x29) ∧
 ∃ n13, n13 < n8 ∧ I7 n13 ((IntKind.wrap .i64 (x10 + 1))) ((IntKind.wrap .i64 (x11 + (IntKind.wrap .i64 ((IntKind.wrap .i64 ((IntKind.wrap .i64 (8 - x15)) * x17)) * (IntKind.wrap .i64 (Int.tmod x29 9))))))) w28)))))
 (Br (x10 == 0)
 (Calls Tryz.prog bz #[a1, (8:Int)] w16 (fun e w30 => ∃ (x31 : Int), e = .returned x31 ∧
 Calls Tryz.prog bz #[a2, (8:Int)] w30 (fun e w32 => ∃ (x33 : Int), e = .returned x33 ∧
 Calls Tryz.prog eh #[a0, (IntKind.wrap .i64 (x31 + x3)), (IntKind.wrap .i64 (x33 + x10))] w32 (fun e w34 => ∃ (x35 : Int), e = .returned (.int .u64 x35) ∧
 ∃ n13, n13 < n8 ∧ I7 n13 ((IntKind.wrap .i64 (x10 + 1))) ((IntKind.wrap .i64 (x11 + (IntKind.wrap .i64 ((IntKind.wrap .i64 (x15 * (IntKind.wrap .i64 (8 - x17)))) * (IntKind.wrap .i64 (Int.tmod x35 9))))))) w34))))
 (Calls Tryz.prog bz #[a1, (8:Int)] w16 (fun e w36 => ∃ (x37 : Int), e = .returned x37 ∧
 Calls Tryz.prog bz #[a2, (8:Int)] w36 (fun e w38 => ∃ (x39 : Int), e = .returned x39 ∧
 Calls Tryz.prog eh #[a0, (IntKind.wrap .i64 (x37 + x3)), (IntKind.wrap .i64 (x39 + x10))] w38 (fun e w40 => ∃ (x41 : Int), e = .returned (.int .u64 x41) ∧
 ∃ n13, n13 < n8 ∧ I7 n13 ((IntKind.wrap .i64 (x10 + 1))) ((IntKind.wrap .i64 (x11 + (IntKind.wrap .i64 ((IntKind.wrap .i64 (x15 * x17)) * (IntKind.wrap .i64 (Int.tmod x41 9))))))) w40))))))))
 (∃ n6, n6 < n1 ∧ I0 n6 ((IntKind.wrap .i64 (x3 + 1))) x11 w12))
 (R (.returned ((IntKind.wrap .i64 (6 + (IntKind.wrap .i64 (Int.tdiv x4 64)))))) w5)
theorem me.vc {a0 a1 a2 w} (h : me.pre a0 a1 a2 w R) : Calls Tryz.prog jB #[a0, a1, a2] w R :=
 cq ⟨[(6, ⟨[(9, .int .i64), (7, .int .i64)], [], []⟩), (3, ⟨[(8, .int .i64), (7, .int .i64)], [], []⟩)], [], []⟩ Tryz.func219 h
def nU.pre (a0 : Sl) (w : World) (R : Ending → World → Prop) : Prop :=
 ∃ I0 : Nat → Int → Sl → World → Prop,
 (∃ n1, I0 n1 (0) ⟨none, 0, 0⟩ w) ∧
 ∀ (n1 : Nat) (us2 : Nat → Value) (x3 : Int) (s4 : Sl) (w5 : World), I0 n1 x3 s4 w5 →
 Br (decide (x3 < ((a0.n : Nat) : Int)))
 (∃ I7 : Nat → Int → Sl → World → Prop,
 (∃ n8, I7 n8 (0) s4 w5) ∧
 ∀ (n8 : Nat) (us9 : Nat → Value) (x10 : Int) (s11 : Sl) (w12 : World), I7 n8 x10 s11 w12 →
 bA a0.a x3 a0.n ∧ aK (ep (ab a0.a ((x3 : Int).toNat * 2))) (∃ (x14 : Int), ld w12 (ab (ab a0.a ((x3 : Int).toNat * 2)) 0) = some (.int .i64 x14) ∧
 Br (decide (x10 < x14))
 (bA a0.a x3 a0.n ∧ aK (ep (ab a0.a ((x3 : Int).toNat * 2))) (∃ (x15 : Int), ld w12 (ab (ab a0.a ((x3 : Int).toNat * 2)) 1) = some (.int .i64 x15) ∧
 ∀ w16 : World, w16 = w12.alloc (.cells #[x15] 3) →
 au 8 1 w16 s11 1 [x15] ∧ ∀ (s17 : Sl) (w18 : World), aq 3 1 w16 s11 1 [x15] s17 w18 → Kp w12 w16 w18 ∧
 ∃ n13, n13 < n8 ∧ I7 n13 ((IntKind.wrap .i64 (x10 + 1))) s17 w18))
 (∃ n6, n6 < n1 ∧ I0 n6 ((IntKind.wrap .i64 (x3 + 1))) s11 w12)))
 (R (.returned s4) w5)
theorem nU.vc {a0 w} (h : nU.pre a0 w R) : Calls Tryz.prog kL #[a0] w R :=
 cq ⟨[(6, ⟨[(5, .int .i64), (3, .slice)], [], []⟩), (3, ⟨[(4, .int .i64), (3, .slice)], [], []⟩)], [], []⟩ Tryz.func224 h
def mA.pre (a0 : Int) (w : World) (R : Ending → World → Prop) : Prop :=
 Calls Tryz.prog fp #[a0] w (fun e w0 => ∃ (t1 : ByteArray), e = .returned (.string t1) ∧
 R (.returned (.string t1)) w0)
theorem mA.vc {a0 w} (h : mA.pre a0 w R) : Calls Tryz.prog jJ #[a0] w R :=
 cq ⟨[], [], []⟩ Tryz.func225 h
def tQ.pre (a0 : Sl) (w : World) (R : Ending → World → Prop) : Prop :=
 ∃ I0 : Nat → Int → Sl → World → Prop,
 (∃ n1, I0 n1 (0) ⟨none, 0, 0⟩ w) ∧
 ∀ (n1 : Nat) (us2 : Nat → Value) (x3 : Int) (s4 : Sl) (w5 : World), I0 n1 x3 s4 w5 →
 Br (decide (x3 < ((a0.n : Nat) : Int)))
 (bA a0.a x3 a0.n ∧ ∃ (s7 : Sl), ld w5 (ab a0.a ((x3 : Int).toNat * 1)) = some (.slice s7.a s7.n s7.c) ∧
 ∃ I8 : Nat → Int → Sl → World → Prop,
 (∃ n9, I8 n9 (0) s4 w5) ∧
 ∀ (n9 : Nat) (us10 : Nat → Value) (x11 : Int) (s12 : Sl) (w13 : World), I8 n9 x11 s12 w13 →
 Br (decide (x11 < ((s7.n : Nat) : Int)))
 (bA s7.a x11 s7.n ∧ ∃ (x15 x16 : Int), ah w13 (ab s7.a ((x11 : Int).toNat * 2)) 0 [x15, x16] ∧
 ∀ w17 : World, w17 = w13.alloc (.cells #[(0:Int), (0:Int)] 166) →
 ∀ w18 : World, w18 = w17.setRow w13 #[x15, x16] →
 Calls Tryz.prog dU #[s12, .agg #[x15, x16]] w18 (fun e w19 => ∃ (s20 : Sl), e = .returned s20 ∧ Kp w13 w18 w19 ∧
 ∃ n14, n14 < n9 ∧ I8 n14 ((IntKind.wrap .i64 (x11 + 1))) s20 w19))
 (∃ n6, n6 < n1 ∧ I0 n6 ((IntKind.wrap .i64 (x3 + 1))) s12 w13))
 (R (.returned s4) w5)
theorem tQ.vc {a0 w} (h : tQ.pre a0 w R) : Calls Tryz.prog oB #[a0] w R :=
 cq ⟨[(6, ⟨[(16, .int .i64), (3, .slice)], [], []⟩), (3, ⟨[(10, .int .i64), (3, .slice)], [], []⟩)], [], []⟩ Tryz.func226 h
def wP.pre (a0 : Sl) (a1 a2 : Int) (w : World) (R : Ending → World → Prop) : Prop :=
 ∃ I0 : Nat → Int → Int → Sl → World → Prop,
 (∃ n1, I0 n1 (0) (0) ⟨none, 0, 0⟩ w) ∧
 ∀ (n1 : Nat) (us2 : Nat → Value) (x3 x4 : Int) (s5 : Sl) (w6 : World), I0 n1 x3 x4 s5 w6 →
 Br (decide (x3 < ((a0.n : Nat) : Int)))
 (bA a0.a x3 a0.n ∧ ∃ (x8 x9 : Int), ah w6 (ab a0.a ((x3 : Int).toNat * 2)) 0 [x8, x9] ∧
 ∀ w10 : World, w10 = w6.alloc (.cells #[(0:Int), (0:Int)] 166) →
 ∀ w11 : World, w11 = w10.setRow w6 #[x8, x9] →
 Br (decide (((if (IntKind.wrap .i64 (x4 + x8)) < a2 then (IntKind.wrap .i64 (x4 + x8)) else a2) : Int) > (if x4 > a1 then x4 else a1)))
 (Calls Tryz.prog dU #[s5, .agg #[(IntKind.wrap .i64 ((if (IntKind.wrap .i64 (x4 + x8)) < a2 then (IntKind.wrap .i64 (x4 + x8)) else a2) - (if x4 > a1 then x4 else a1))), x9]] w11.drew (fun e w12 => ∃ (s13 : Sl), e = .returned s13 ∧ Kp w6 w11.drew w12 ∧
 ∃ n7, n7 < n1 ∧ I0 n7 ((IntKind.wrap .i64 (x3 + 1))) ((IntKind.wrap .i64 (x4 + x8))) s13 w12))
 (∃ n7, n7 < n1 ∧ I0 n7 ((IntKind.wrap .i64 (x3 + 1))) ((IntKind.wrap .i64 (x4 + x8))) s5 w11.drew))
 (R (.returned s5) w6)
theorem wP.vc {a0 a1 a2 w} (h : wP.pre a0 a1 a2 w R) : Calls Tryz.prog mr #[a0, a1, a2] w R :=
 cq ⟨[(4, ⟨[(15, .int .i64), (8, .int .i64), (7, .slice)], [], []⟩)], [], []⟩ Tryz.func227 h
def tR.pre (a0 a1 : Int) (w : World) (R : Ending → World → Prop) : Prop :=
 Calls Tryz.prog dU #[.slice none 0 0, .agg #[a0, a1]] w (fun e w0 => ∃ (s1 : Sl), e = .returned s1 ∧
 R (.returned s1) w0)
theorem tR.vc {a0 a1 w} (h : tR.pre a0 a1 w R) : Calls Tryz.prog oC #[a0, a1] w R :=
 cq ⟨[], [], []⟩ Tryz.func228 h
def oH.pre (a0 : Int) (w : World) (R : Ending → World → Prop) : Prop :=
 Br (decide (a0 < 0))
 (R (.returned (.slice none 0 0)) w)
 (Br (decide (a0 > 1048576))
 (R (.returned (.slice none 0 0)) w)
 (∃ I0 : Nat → Int → Sl → World → Prop,
 (∃ n1, I0 n1 a0 ⟨none, 0, 0⟩ w) ∧
 ∀ (n1 : Nat) (us2 : Nat → Value) (x3 : Int) (s4 : Sl) (w5 : World), I0 n1 x3 s4 w5 →
 Br (decide (x3 ≥ 128))
 (∀ w7 : World, w7 = w5.alloc (.cells #[.int .u8 (AR .u8 (IntKind.wrap .u8 x3) 128)] 5) →
 au 1 1 w7 s4 1 [.int .u8 (AR .u8 (IntKind.wrap .u8 x3) 128)] ∧ ∀ (s8 : Sl) (w9 : World), aq 5 1 w7 s4 1 [.int .u8 (AR .u8 (IntKind.wrap .u8 x3) 128)] s8 w9 → Kp w5 w7 w9 ∧
 ∃ n6, n6 < n1 ∧ I0 n6 (((x3 : Int).fdiv (2 ^ (min (7 : Int).toNat 64)))) s8 w9)
 (∀ w10 : World, w10 = w5.alloc (.cells #[.int .u8 (IntKind.wrap .u8 x3)] 5) →
 au 1 1 w10 s4 1 [.int .u8 (IntKind.wrap .u8 x3)] ∧ ∀ (s11 : Sl) (w12 : World), aq 5 1 w10 s4 1 [.int .u8 (IntKind.wrap .u8 x3)] s11 w12 → Kp w5 w10 w12 ∧
 R (.returned s11) w12)))
theorem oH.vc {a0 w} (h : oH.pre a0 w R) : Calls Tryz.prog kW #[a0] w R :=
 cq ⟨[(4, ⟨[(0, .int .i64), (3, .slice)], [], []⟩)], [], []⟩ Tryz.func234 h
def iD.pre (a0 : Option Nat) (w : World) (R : Ending → World → Prop) : Prop :=
 Br (a0).isNone
 (R (.returned (.map none)) w)
 (Gy Tryz.prog 247 [.iface 259 (.map a0)] w (fun e w0 => ∃ (v1 : Value), e = .returned v1 ∧
 ∃ (m2 : Option Nat), (v1 : Value) = .iface 259 (.map m2) ∧
 R (.returned (.map m2)) w0))
theorem iD.vc {a0 w} (h : iD.pre a0 w R) : Calls Tryz.prog fL #[.map a0] w R :=
 cq ⟨[], [], []⟩ Tryz.func236 h
def mb.pre (a0 a1 a2 : Int) (c0 : Addr) (w : World) (R : Ending → World → Prop) : Prop :=
 ∃ (x0 : Int), ld w (some c0) = some (.int .i64 x0) ∧
 Calls Tryz.prog qB #[x0, a0, a1] w (fun e w1 => ∃ (x2 : Int), e = .returned (.int .u64 x2) ∧
 R (.returned ((IntKind.wrap .i64 ((IntKind.wrap .i64 (Int.tmod x2 9)) * a2)))) w1)
theorem mb.vc {a0 a1 a2 c0 w} (h : mb.pre a0 a1 a2 c0 w R) : Calls Tryz.prog cR #[a0, a1, a2, .pointer (some c0)] w R :=
 cq ⟨[], [], []⟩ Tryz.func238 h
def rM.pre (a0 a1 a2 : Int) (w : World) (R : Ending → World → Prop) : Prop :=
 R (.returned (.int .u64 (dJ .u64 (IntKind.wrap .u64 ((dJ .u64 (IntKind.wrap .u64 ((IntKind.wrap .u64 ((IntKind.wrap .u64 ((IntKind.wrap .u64 a0) * 11400714819323198485)) + (IntKind.wrap .u64 ((IntKind.wrap .u64 a1) * 14029467366897019727)))) + (IntKind.wrap .u64 ((IntKind.wrap .u64 a2) * 1609587929392839161)))) (((IntKind.wrap .u64 ((IntKind.wrap .u64 ((IntKind.wrap .u64 ((IntKind.wrap .u64 a0) * 11400714819323198485)) + (IntKind.wrap .u64 ((IntKind.wrap .u64 a1) * 14029467366897019727)))) + (IntKind.wrap .u64 ((IntKind.wrap .u64 a2) * 1609587929392839161)))) : Int).fdiv (2 ^ (min (29 : Int).toNat 64)))) * 13787848793156543929)) (((IntKind.wrap .u64 ((dJ .u64 (IntKind.wrap .u64 ((IntKind.wrap .u64 ((IntKind.wrap .u64 ((IntKind.wrap .u64 a0) * 11400714819323198485)) + (IntKind.wrap .u64 ((IntKind.wrap .u64 a1) * 14029467366897019727)))) + (IntKind.wrap .u64 ((IntKind.wrap .u64 a2) * 1609587929392839161)))) (((IntKind.wrap .u64 ((IntKind.wrap .u64 ((IntKind.wrap .u64 ((IntKind.wrap .u64 a0) * 11400714819323198485)) + (IntKind.wrap .u64 ((IntKind.wrap .u64 a1) * 14029467366897019727)))) + (IntKind.wrap .u64 ((IntKind.wrap .u64 a2) * 1609587929392839161)))) : Int).fdiv (2 ^ (min (29 : Int).toNat 64)))) * 13787848793156543929)) : Int).fdiv (2 ^ (min (32 : Int).toNat 64)))))) w
theorem rM.vc {a0 a1 a2 w} (h : rM.pre a0 a1 a2 w R) : Calls Tryz.prog qB #[a0, a1, a2] w R :=
 cq ⟨[], [], []⟩ Tryz.func239 h
def ma.pre (a0 a1 a2 : Int) (w : World) (R : Ending → World → Prop) : Prop :=
 R (.returned (.int .u64 (dJ .u64 (IntKind.wrap .u64 ((dJ .u64 (IntKind.wrap .u64 ((IntKind.wrap .u64 ((IntKind.wrap .u64 ((IntKind.wrap .u64 a0) * 11400714819323198485)) + (IntKind.wrap .u64 ((IntKind.wrap .u64 a1) * 14029467366897019727)))) + (IntKind.wrap .u64 ((IntKind.wrap .u64 a2) * 1609587929392839161)))) (IntKind.wrap .u64 (Int.tdiv (IntKind.wrap .u64 ((IntKind.wrap .u64 ((IntKind.wrap .u64 ((IntKind.wrap .u64 a0) * 11400714819323198485)) + (IntKind.wrap .u64 ((IntKind.wrap .u64 a1) * 14029467366897019727)))) + (IntKind.wrap .u64 ((IntKind.wrap .u64 a2) * 1609587929392839161)))) 536870912))) * 13787848793156543929)) (IntKind.wrap .u64 (Int.tdiv (IntKind.wrap .u64 ((dJ .u64 (IntKind.wrap .u64 ((IntKind.wrap .u64 ((IntKind.wrap .u64 ((IntKind.wrap .u64 a0) * 11400714819323198485)) + (IntKind.wrap .u64 ((IntKind.wrap .u64 a1) * 14029467366897019727)))) + (IntKind.wrap .u64 ((IntKind.wrap .u64 a2) * 1609587929392839161)))) (IntKind.wrap .u64 (Int.tdiv (IntKind.wrap .u64 ((IntKind.wrap .u64 ((IntKind.wrap .u64 ((IntKind.wrap .u64 a0) * 11400714819323198485)) + (IntKind.wrap .u64 ((IntKind.wrap .u64 a1) * 14029467366897019727)))) + (IntKind.wrap .u64 ((IntKind.wrap .u64 a2) * 1609587929392839161)))) 536870912))) * 13787848793156543929)) 4294967296))))) w
theorem ma.vc {a0 a1 a2 w} (h : ma.pre a0 a1 a2 w R) : Calls Tryz.prog eh #[a0, a1, a2] w R :=
 cq ⟨[], [], []⟩ Tryz.func241 h
def dz.pre (a0 : Int) (w : World) (R : Ending → World → Prop) : Prop :=
 Calls Tryz.prog iA #[a0, (10:Int)] w (fun e w0 => ∃ (t1 : ByteArray), e = .returned (.string t1) ∧
 R (.returned (.string t1)) w0)
theorem dz.vc {a0 w} (h : dz.pre a0 w R) : Calls Tryz.prog fp #[a0] w R :=
 cq ⟨[], [], []⟩ Tryz.func243 h
def ej.pre (a0 : Addr) (w : World) (R : Ending → World → Prop) : Prop :=
 ∃ (s0 : Sl), ld w (ab (some a0) 1) = some (.slice s0.a s0.n s0.c) ∧
 (true = true ∧ Wr w (ab (some a0) 1) 1) ∧ (∀ w1 : World, w1 = aB w (ab (some a0) 1) [.slice none 0 0] →
 R (.returned s0) w1)
theorem ej.vc {a0 w} (h : ej.pre a0 w R) : Calls Tryz.prog bE #[.pointer (some a0)] w R :=
 cq ⟨[], [], []⟩ Tryz.func24 h
def cc.pre (a0 : Int) (w : World) (R : Ending → World → Prop) : Prop :=
 Br (decide (a0 < 10))
 ((0 : Int) ≤ (IntKind.wrap .i64 (a0 + 1)) ∧ (IntKind.wrap .i64 (a0 + 1)) ≤ ((((ByteArray.mk #[48, 49, 50, 51, 52, 53, 54, 55, 56, 57, 97, 98, 99, 100, 101, 102, 103, 104, 105, 106, 107, 108, 109, 110, 111, 112, 113, 114, 115, 116, 117, 118, 119, 120, 121, 122])).size : Nat) : Int) ∧ (0 : Int) ≤ a0 ∧ a0 ≤ (IntKind.wrap .i64 (a0 + 1)) ∧ R (.returned (.string (((ByteArray.mk #[48, 49, 50, 51, 52, 53, 54, 55, 56, 57, 97, 98, 99, 100, 101, 102, 103, 104, 105, 106, 107, 108, 109, 110, 111, 112, 113, 114, 115, 116, 117, 118, 119, 120, 121, 122])).extract ((a0 : Int).toNat) (((IntKind.wrap .i64 (a0 + 1)) : Int).toNat)))) w)
 ((0 : Int) ≤ (IntKind.wrap .i64 ((IntKind.wrap .i64 (a0 * 2)) + 2)) ∧ (IntKind.wrap .i64 ((IntKind.wrap .i64 (a0 * 2)) + 2)) ≤ ((((ByteArray.mk #[48, 48, 48, 49, 48, 50, 48, 51, 48, 52, 48, 53, 48, 54, 48, 55, 48, 56, 48, 57, 49, 48, 49, 49, 49, 50, 49, 51, 49, 52, 49, 53, 49, 54, 49, 55, 49, 56, 49, 57, 50, 48, 50, 49, 50, 50, 50, 51, 50, 52, 50, 53, 50, 54, 50, 55, 50, 56, 50, 57, 51, 48, 51, 49, 51, 50, 51, 51, 51, 52, 51, 53, 51, 54, 51, 55, 51, 56, 51, 57, 52, 48, 52, 49, 52, 50, 52, 51, 52, 52, 52, 53, 52, 54, 52, 55, 52, 56, 52, 57, 53, 48, 53, 49, 53, 50, 53, 51, 53, 52, 53, 53, 53, 54, 53, 55, 53, 56, 53, 57, 54, 48, 54, 49, 54, 50, 54, 51, 54, 52, 54, 53, 54, 54, 54, 55, 54, 56, 54, 57, 55, 48, 55, 49, 55, 50, 55, 51, 55, 52, 55, 53, 55, 54, 55, 55, 55, 56, 55, 57, 56, 48, 56, 49, 56, 50, 56, 51, 56, 52, 56, 53, 56, 54, 56, 55, 56, 56, 56, 57, 57, 48, 57, 49, 57, 50, 57, 51, 57, 52, 57, 53, 57, 54, 57, 55, 57, 56, 57, 57])).size : Nat) : Int) ∧ (0 : Int) ≤ (IntKind.wrap .i64 (a0 * 2)) ∧ ((IntKind.wrap .i64 (a0 * 2)) : Int) ≤ (IntKind.wrap .i64 ((IntKind.wrap .i64 (a0 * 2)) + 2)) ∧ R (.returned (.string (((ByteArray.mk #[48, 48, 48, 49, 48, 50, 48, 51, 48, 52, 48, 53, 48, 54, 48, 55, 48, 56, 48, 57, 49, 48, 49, 49, 49, 50, 49, 51, 49, 52, 49, 53, 49, 54, 49, 55, 49, 56, 49, 57, 50, 48, 50, 49, 50, 50, 50, 51, 50, 52, 50, 53, 50, 54, 50, 55, 50, 56, 50, 57, 51, 48, 51, 49, 51, 50, 51, 51, 51, 52, 51, 53, 51, 54, 51, 55, 51, 56, 51, 57, 52, 48, 52, 49, 52, 50, 52, 51, 52, 52, 52, 53, 52, 54, 52, 55, 52, 56, 52, 57, 53, 48, 53, 49, 53, 50, 53, 51, 53, 52, 53, 53, 53, 54, 53, 55, 53, 56, 53, 57, 54, 48, 54, 49, 54, 50, 54, 51, 54, 52, 54, 53, 54, 54, 54, 55, 54, 56, 54, 57, 55, 48, 55, 49, 55, 50, 55, 51, 55, 52, 55, 53, 55, 54, 55, 55, 55, 56, 55, 57, 56, 48, 56, 49, 56, 50, 56, 51, 56, 52, 56, 53, 56, 54, 56, 55, 56, 56, 56, 57, 57, 48, 57, 49, 57, 50, 57, 51, 57, 52, 57, 53, 57, 54, 57, 55, 57, 56, 57, 57])).extract (((IntKind.wrap .i64 (a0 * 2)) : Int).toNat) (((IntKind.wrap .i64 ((IntKind.wrap .i64 (a0 * 2)) + 2)) : Int).toNat)))) w)
theorem cc.vc {a0 w} (h : cc.pre a0 w R) : Calls Tryz.prog eH #[a0] w R :=
 cq ⟨[], [], []⟩ Tryz.func253 h
def ik.pre (a0 : Addr) (a1_0 a1_1 a1_2 a2 : Int) (w : World) (R : Ending → World → Prop) : Prop :=
 ∀ w0 : World, w0 = w.alloc (.cells #[a1_0, a1_1, a1_2] 23) →
 ∃ (p1 : Option Addr), ld w0.drew (ab (some a0) 0) = some (.pointer p1) ∧
 Calls Tryz.prog bf #[.pointer p1, .agg #[a1_0, a1_1, a1_2]] w0.drew (fun e w2 => ∃ (x3 : Int), e = .returned x3 ∧ Kp w w0.drew w2 ∧
 ∃ (p4 : Option Addr), ld w2.drew (ab (some a0) 0) = some (.pointer p4) ∧
 Calls Tryz.prog dG #[.pointer p4, .agg #[a1_0, a1_1, a1_2], a2] w2.drew (fun e w5 => ∃ (x6 : Int), e = .returned x6 ∧ Kp w w2.drew w5 ∧
 Br (x6 == 0)
 (Br (x3 != a2)
 (∃ (s7 : Sl), ld w5.drew (ab (some a0) 1) = some (.slice s7.a s7.n s7.c) ∧
 ∀ w8 : World, w8 = w5.drew.alloc (.cells #[a1_0, a1_1, a1_2, a2] 71) →
 au 32 4 w8 s7 1 [a1_0, a1_1, a1_2, a2] ∧ ∀ (s9 : Sl) (w10 : World), aq 71 4 w8 s7 1 [a1_0, a1_1, a1_2, a2] s9 w10 → Kp w w8 w10 ∧ w10.heap[w5.drew.heap.size]? = w8.heap[w5.drew.heap.size]? ∧
 (true = true ∧ Wr w10 (ab (some a0) 1) 1) ∧ bK (ab (some a0) 1) ≠ some w.heap.size ∧ bK (ab (some a0) 1) ≠ some w5.drew.heap.size ∧ (∀ w11 : World, w11 = aB w10 (ab (some a0) 1) [s9] →
 R (.returned x6) w11))
 (R (.returned x6) w5))
 (R (.returned x6) w5)))
theorem ik.vc {a0 a1_0 a1_1 a1_2 a2 w} (h : ik.pre a0 a1_0 a1_1 a1_2 a2 w R) : Calls Tryz.prog fz #[.pointer (some a0), .agg #[a1_0, a1_1, a1_2], a2] w R :=
 cq ⟨[], [], []⟩ Tryz.func27 h
def sY.pre (a0 a1 a2 : Int) (w : World) (R : Ending → World → Prop) : Prop :=
 Calls Tryz.prog kf #[a0, a1, a2] w (fun e w0 => ∃ (p1 : Option Addr), e = .returned (.pointer p1) ∧
 ∀ w2 : World, w2 = w0.alloc (.cells #[.pointer p1, .slice none 0 0] 100) →
 R (.returned (.pointer (some ⟨w0, 0, none⟩))) w2)
theorem sY.vc {a0 a1 a2 w} (h : sY.pre a0 a1 a2 w R) : Calls Tryz.prog uK #[a0, a1, a2] w R :=
 cq ⟨[], [], []⟩ Tryz.func35 h
def fy.pre (a0 : Addr) (w : World) (R : Ending → World → Prop) : Prop :=
 ∃ (p0 : Option Addr), ld w (ab (some a0) 0) = some (.pointer p0) ∧
 R (.returned (.pointer p0)) w
theorem fy.vc {a0 w} (h : fy.pre a0 w R) : Calls Tryz.prog iQ #[.pointer (some a0)] w R :=
 cq ⟨[], [], []⟩ Tryz.func37 h
def gw.pre (a0 : Addr) (a1_0 a1_1 : Int) (w : World) (R : Ending → World → Prop) : Prop :=
 ∀ w0 : World, w0 = w.alloc (.cells #[a1_0, a1_1] 89) →
 Calls Tryz.prog mu #[.agg #[a1_0, a1_1]] w0 (fun e w1 => ∃ (x2 : Int) (b3 : Bool), e = .returned (.tuple #[x2, .bool b3]) ∧ Kp w w0 w1 ∧
 Br (!b3)
 (R (.returned (5:Int)) w1)
 (Calls Tryz.prog cn #[.pointer (some a0), .agg #[a1_0, a1_1]] w1 (fun e w4 => ∃ (x5 : Int), e = .returned x5 ∧ Kp w w1 w4 ∧
 Br (decide (x5 ≥ 0))
 (Calls Tryz.prog cO #[.pointer (some a0), x5] w4 (fun e w6 => ∃ (p7 : Option Addr), e = .returned (.pointer p7) ∧ Kp w w4 w6 ∧
 R (.returned (0:Int)) w6))
 (Calls Tryz.prog eZ #[.pointer (some a0)] w4 (fun e w8 => ∃ (x9 : Int), e = .returned x9 ∧ Kp w w4 w8 ∧
 Br (x9 != 0)
 (R (.returned x9) w8)
 (∃ (p10 : Option Addr), ld w8 (ab (some a0) 0) = some (.pointer p10) ∧
 Calls Tryz.prog fc #[.pointer p10, x2] w8 (fun e w11 => ∃ (s12 : Sl) (x13 : Int) (b14 : Bool), e = .returned (.tuple #[s12, x13, .bool b14]) ∧ Kp w w8 w11 ∧
 Calls Tryz.prog mv #[.agg #[a1_0, a1_1], s12] w11 (fun e w15 => ∃ (p16 : Option Addr) (x17 : Int), e = .returned (.tuple #[.pointer p16, x17]) ∧ Kp w w11 w15 ∧
 Br (x17 != 0)
 (∃ (x18 : Int), ld w15.drew (ab (some a0) 1) = some (.int .i64 x18) ∧
 Calls Tryz.prog mw #[x18, .agg #[a1_0, a1_1]] w15.drew (fun e w19 => ∃ (p20 : Option Addr), e = .returned (.pointer p20) ∧ Kp w w15.drew w19 ∧
 ∃ (s21 : Sl), ld w19 (ab (some a0) 3) = some (.slice s21.a s21.n s21.c) ∧
 ∀ w22 : World, w22 = w19.alloc (.cells #[.pointer p20, .bool false, (0:Int)] 144) →
 ∀ w23 : World, w23 = w22.alloc (.cells #[.pointer (some ⟨w19, 0, none⟩)] 129) →
 au 8 1 w23 s21 1 [.pointer (some ⟨w19, 0, none⟩)] ∧ ∀ (s24 : Sl) (w25 : World), aq 129 1 w23 s21 1 [.pointer (some ⟨w19, 0, none⟩)] s24 w25 → Kp w w23 w25 ∧ Kp w22 w23 w25 ∧
 (true = true ∧ Wr w25 (ab (some a0) 3) 1) ∧ bK (ab (some a0) 3) ≠ some w.heap.size ∧ bK (ab (some a0) 3) ≠ some w22.heap.size ∧ (∀ w26 : World, w26 = aB w25 (ab (some a0) 3) [s24] →
 R (.returned (0:Int)) w26)))
 (∃ (s27 : Sl), ld w15 (ab (some a0) 3) = some (.slice s27.a s27.n s27.c) ∧
 ∀ w28 : World, w28 = w15.alloc (.cells #[.pointer p16, .bool false, (0:Int)] 144) →
 ∀ w29 : World, w29 = w28.alloc (.cells #[.pointer (some ⟨w15, 0, none⟩)] 129) →
 au 8 1 w29 s27 1 [.pointer (some ⟨w15, 0, none⟩)] ∧ ∀ (s30 : Sl) (w31 : World), aq 129 1 w29 s27 1 [.pointer (some ⟨w15, 0, none⟩)] s30 w31 → Kp w w29 w31 ∧ Kp w28 w29 w31 ∧
 (true = true ∧ Wr w31 (ab (some a0) 3) 1) ∧ bK (ab (some a0) 3) ≠ some w.heap.size ∧ bK (ab (some a0) 3) ≠ some w28.heap.size ∧ (∀ w32 : World, w32 = aB w31 (ab (some a0) 3) [s30] →
 R (.returned (0:Int)) w32))))))))))
theorem gw.vc {a0 a1_0 a1_1 w} (h : gw.pre a0 a1_0 a1_1 w R) : Calls Tryz.prog da #[.pointer (some a0), .agg #[a1_0, a1_1]] w R :=
 cq ⟨[], [], []⟩ Tryz.func38 h
def jK.pre (a0 : Addr) (a1_0 a1_1 a1_2 : Int) (w : World) (R : Ending → World → Prop) : Prop :=
 ∀ w0 : World, w0 = w.alloc (.cells #[a1_0, a1_1, a1_2] 23) →
 Calls Tryz.prog eg #[.agg #[a1_0, a1_1, a1_2]] w0 (fun e w1 => ∃ (x2 x3 : Int), e = .returned (.agg #[x2, x3]) ∧ Kp w w0 w1 ∧
 Calls Tryz.prog cn #[.pointer (some a0), .agg #[x2, x3]] w1 (fun e w4 => ∃ (x5 : Int), e = .returned x5 ∧ Kp w w1 w4 ∧
 Br (decide (x5 < 0))
 (R (.returned (.int .i64 (-1))) w4)
 (Br (decide (a1_1 < 0))
 (R (.returned (1:Int)) w4)
 (∃ (s6 : Sl), ld w4.drew (ab (some a0) 3) = some (.slice s6.a s6.n s6.c) ∧
 bA s6.a x5 s6.n ∧ ∃ (p7 : Option Addr), ld w4.drew (ab s6.a ((x5 : Int).toNat * 1)) = some (.pointer p7) ∧
 aK (ep p7) (aK (ep p7) (∃ (p8 : Option Addr), ld w4.drew (ab p7 0) = some (.pointer p8) ∧
 Calls Tryz.prog ei #[.pointer p8, .agg #[a1_0, a1_1, a1_2]] w4.drew (fun e w9 => ∃ (x10 : Int) (CR : Bool), e = .returned (.tuple #[x10, .bool CR]) ∧ Kp w w4.drew w9 ∧
 ah w9 (ab s6.a ((x5 : Int).toNat * 1)) 0 [.pointer p7] ∧ ah w9 (ab (some a0) 3) 0 [s6] ∧ R (.returned x10) w9)))))))
theorem jK.vc {a0 a1_0 a1_1 a1_2 w} (h : jK.pre a0 a1_0 a1_1 a1_2 w R) : Calls Tryz.prog bf #[.pointer (some a0), .agg #[a1_0, a1_1, a1_2]] w R :=
 cq ⟨[], [], []⟩ Tryz.func43 h
def tf.pre (a0 a1 : Int) (w : World) (R : Ending → World → Prop) : Prop :=
 Br (decide (a1 < 1))
 (R (.returned (0:Int)) w)
 (aK (FQ a1) (Br (decide (((Int.tmod a0 a1) : Int) < 0))
 (R (.returned ((IntKind.wrap .i64 ((Int.tmod a0 a1) + a1)))) w)
 (R (.returned (.int .i64 (Int.tmod a0 a1))) w)))
theorem tf.vc {a0 a1 w} (h : tf.pre a0 a1 w R) : Calls Tryz.prog fm #[a0, a1] w R :=
 cq ⟨[], [], []⟩ Tryz.func44 h
def nP.pre (a0_0 a0_1 a0_2 : Int) (w : World) (R : Ending → World → Prop) : Prop :=
 ∀ w0 : World, w0 = w.alloc (.cells #[a0_0, a0_1, a0_2] 23) →
 ∀ w1 : World, w1 = w0.alloc (.cells #[(0:Int), (0:Int)] 89) →
 Calls Tryz.prog bz #[a0_0, (16:Int)] w1.drew (fun e w2 => ∃ (x3 : Int), e = .returned x3 ∧ Kp w w1.drew w2 ∧ Kp w0 w1.drew w2 ∧
 ah w2 (some ⟨w, 2, none⟩) 0 [a0_2] ∧ Calls Tryz.prog bz #[a0_2, (16:Int)] w2 (fun e w4 => ∃ (x5 : Int), e = .returned x5 ∧ Kp w w2 w4 ∧ Kp w0 w2 w4 ∧
 ∀ w6 : World, w6 = w4.setRow w0 #[x3, x5] →
 R (.returned (.agg #[x3, x5])) w6))
theorem nP.vc {a0_0 a0_1 a0_2 w} (h : nP.pre a0_0 a0_1 a0_2 w R) : Calls Tryz.prog kK #[.agg #[a0_0, a0_1, a0_2]] w R :=
 cq ⟨[], [], []⟩ Tryz.func50 h
def wQ.pre (a0_0 a0_1 : Int) (a0_2 : Sl) (a1_0 a1_1 a1_2 : Int) (w : World) (R : Ending → World → Prop) : Prop :=
 ∀ w0 : World, w0 = w.alloc (.cells #[a0_0, a0_1, a0_2] 108) →
 ∀ w1 : World, w1 = w0.alloc (.cells #[a1_0, a1_1, a1_2] 23) →
 Calls Tryz.prog gR #[.agg #[a0_0, a0_1, a0_2], .agg #[a1_0, a1_1, a1_2]] w1 (fun e w2 => ∃ (x3 : Int), e = .returned x3 ∧ Kp w w1 w2 ∧ Kp w0 w1 w2 ∧
 Br (decide (x3 < 0))
 (R (.returned (.int .i64 (-1))) w2)
 (∃ I4 : Nat → Int → Int → World → Prop,
 (∃ n5, aT [a0_0, a0_1, a0_2] ∧ aT [a1_0, a1_1, a1_2] ∧ I4 n5 (0) (0) w2) ∧
 ∀ (n5 : Nat) (us6 : Nat → Value) (x7 x8 : Int) (w9 : World), I4 n5 x7 x8 w9 →
 Br (decide (x7 < ((a0_2.n : Nat) : Int)))
 (bA a0_2.a x7 a0_2.n ∧ aK (ep (ab a0_2.a ((x7 : Int).toNat * 2))) (∃ (x11 : Int), ld w9 (ab (ab a0_2.a ((x7 : Int).toNat * 2)) 0) = some (.int .i64 x11) ∧
 Br (decide (x3 < (IntKind.wrap .i64 (x8 + x11))))
 (bA a0_2.a x7 a0_2.n ∧ aK (ep (ab a0_2.a ((x7 : Int).toNat * 2))) (∃ (x12 : Int), ld w9 (ab (ab a0_2.a ((x7 : Int).toNat * 2)) 1) = some (.int .i64 x12) ∧
 R (.returned x12) w9))
 (∃ n10, n10 < n5 ∧ aT [a0_0, a0_1, a0_2] ∧ aT [a1_0, a1_1, a1_2] ∧ I4 n10 ((IntKind.wrap .i64 (x7 + 1))) ((IntKind.wrap .i64 (x8 + x11))) w9)))
 (R (.returned (.int .i64 (-1))) w9)))
theorem wQ.vc {a0_0 a0_1 a0_2 a1_0 a1_1 a1_2 w} (h : wQ.pre a0_0 a0_1 a0_2 a1_0 a1_1 a1_2 w R) : Calls Tryz.prog wJ #[.agg #[a0_0, a0_1, a0_2], .agg #[a1_0, a1_1, a1_2]] w R :=
 cq ⟨[(6, ⟨[(7, .int .i64), (6, .int .i64)], [], []⟩)], [], []⟩ Tryz.func51 h
def mB.pre (a0 : Int) (w : World) (R : Ending → World → Prop) : Prop :=
 Calls Tryz.prog jI #[a0, (14:Int)] w (fun e w0 => ∃ (x1 : Int), e = .returned x1 ∧
 Br (decide (x1 > 5))
 (R (.returned ((IntKind.wrap .i64 (x1 + 2)))) w0)
 (R (.returned x1) w0))
theorem mB.vc {a0 w} (h : mB.pre a0 w R) : Calls Tryz.prog rY #[a0] w R :=
 cq ⟨[], [], []⟩ Tryz.func53 h
def iE.pre (a0 : Addr) (a1_0 a1_1 a1_2 a2 : Int) (w : World) (R : Ending → World → Prop) : Prop :=
 ∀ w0 : World, w0 = w.alloc (.cells #[a1_0, a1_1, a1_2] 23) →
 Calls Tryz.prog eg #[.agg #[a1_0, a1_1, a1_2]] w0 (fun e w1 => ∃ (x2 x3 : Int), e = .returned (.agg #[x2, x3]) ∧ Kp w w0 w1 ∧
 Calls Tryz.prog cn #[.pointer (some a0), .agg #[x2, x3]] w1 (fun e w4 => ∃ (x5 : Int), e = .returned x5 ∧ Kp w w1 w4 ∧
 Calls Tryz.prog ja #[.agg #[a1_0, a1_1, a1_2]] w4 (fun e w6 => ∃ (x7 : Int) (b8 : Bool), e = .returned (.tuple #[x7, .bool b8]) ∧ Kp w w4 w6 ∧
 Br (decide (x5 < 0))
 (R (.returned (11:Int)) w6)
 (Br (!b8)
 (R (.returned (5:Int)) w6)
 (Calls Tryz.prog dT #[a2] w6 (fun e w9 => ∃ (b10 : Bool), e = .returned (.bool b10) ∧ Kp w w6 w9 ∧
 Br (!b10)
 (R (.returned (1:Int)) w9)
 (Calls Tryz.prog cO #[.pointer (some a0), x5] w9 (fun e w11 => ∃ (p12 : Option Addr), e = .returned (.pointer p12) ∧ Kp w w9 w11 ∧
 aK (ep p12) (aK (ep p12) (∃ (p13 : Option Addr), ld w11.drew (ab p12 0) = some (.pointer p13) ∧
 Calls Tryz.prog ei #[.pointer p13, .agg #[a1_0, a1_1, a1_2]] w11.drew (fun e w14 => ∃ (x15 : Int) (b16 : Bool), e = .returned (.tuple #[x15, .bool b16]) ∧ Kp w w11.drew w14 ∧
 aK (ep p12) (aK (ep p12) (∃ (b17 : Bool), ld w14 (ab p12 1) = some (.bool b17) ∧
 Br b17
 (aK (ep p12) (aK (ep p12) ((((ab p12 1)).isSome = true ∧ Wr w14 (ab p12 1) 1) ∧ bK (ab p12 1) ≠ some w.heap.size ∧ (∀ w18 : World, w18 = aB w14 (ab p12 1) [.bool true] →
 aK (ep p12) (aK (ep p12) (∃ (p19 : Option Addr), ld w18.drew (ab p12 0) = some (.pointer p19) ∧
 Calls Tryz.prog dD #[.pointer p19, .agg #[a1_0, a1_1, a1_2], a2] w18.drew (fun e w20 => ∃ (x21 : Int), e = .returned x21 ∧ Kp w w18.drew w20 ∧
 R (.returned x21) w20)))))))
 (aK (ep p12) (aK (ep p12) ((((ab p12 1)).isSome = true ∧ Wr w14 (ab p12 1) 1) ∧ bK (ab p12 1) ≠ some w.heap.size ∧ (∀ w22 : World, w22 = aB w14 (ab p12 1) [.bool (x15 != a2)] →
 aK (ep p12) (aK (ep p12) (∃ (p23 : Option Addr), ld w22.drew (ab p12 0) = some (.pointer p23) ∧
 Calls Tryz.prog dD #[.pointer p23, .agg #[a1_0, a1_1, a1_2], a2] w22.drew (fun e w24 => ∃ (x25 : Int), e = .returned x25 ∧ Kp w w22.drew w24 ∧
 R (.returned x25) w24))))))))))))))))))))
theorem iE.vc {a0 a1_0 a1_1 a1_2 a2 w} (h : iE.pre a0 a1_0 a1_1 a1_2 a2 w R) : Calls Tryz.prog dG #[.pointer (some a0), .agg #[a1_0, a1_1, a1_2], a2] w R :=
 cq ⟨[], [], []⟩ Tryz.func59 h
def tU.pre (a0 a1 a2 : Int) (w : World) (R : Ending → World → Prop) : Prop :=
 Calls Tryz.prog om #[a2] w (fun e w0 => ∃ (p1 : Option Addr), e = .returned (.pointer p1) ∧
 ∀ w2 : World, w2 = w0.alloc (.cells #[.pointer p1, a0, .int .i64 (if 16 < (if 1 > a1 then 1 else a1) then 16 else (if 1 > a1 then 1 else a1)), .slice none 0 0] 137) →
 R (.returned (.pointer (some ⟨w0, 0, none⟩))) w2)
theorem tU.vc {a0 a1 a2 w} (h : tU.pre a0 a1 a2 w R) : Calls Tryz.prog kf #[a0, a1, a2] w R :=
 cq ⟨[], [], []⟩ Tryz.func67 h
def wR.pre (a0_0 a0_1 : Int) (w : World) (R : Ending → World → Prop) : Prop :=
 ∀ w0 : World, w0 = w.alloc (.cells #[a0_0, a0_1] 89) →
 Br (decide (a0_0 < (-524288)))
 (R (.returned (.tuple #[(0:Int), .bool false])) w0)
 (Br (decide (a0_0 ≥ 524288))
 (R (.returned (.tuple #[(0:Int), .bool false])) w0)
 (Br (decide (a0_1 < (-524288)))
 (R (.returned (.tuple #[(0:Int), .bool false])) w0)
 (Br (decide (a0_1 ≥ 524288))
 (R (.returned (.tuple #[(0:Int), .bool false])) w0)
 (R (.returned (.tuple #[(IntKind.wrap .i64 ((IntKind.wrap .i64 ((IntKind.wrap .i64 ((IntKind.wrap .i64 ((IntKind.wrap .i64 ((IntKind.wrap .i64 (a0_0 + 524288)) * 2)) * 524288)) + a0_1)) + 524288)) + 1)), .bool true])) w0))))
theorem wR.vc {a0_0 a0_1 w} (h : wR.pre a0_0 a0_1 w R) : Calls Tryz.prog mu #[.agg #[a0_0, a0_1]] w R :=
 cq ⟨[], [], []⟩ Tryz.func69 h
def gx.pre (a0 : Addr) (a1_0 a1_1 : Int) (w : World) (R : Ending → World → Prop) : Prop :=
 ∀ w0 : World, w0 = w.alloc (.cells #[a1_0, a1_1] 89) →
 ∃ (s1 : Sl), ld w0 (ab (some a0) 3) = some (.slice s1.a s1.n s1.c) ∧
 Calls Tryz.prog bO #[s1, .func (.func 114) #[] #[.pointer (some ⟨w, 0, none⟩)]] w0 (fun e w2 => ∃ (x3 : Int), e = .returned x3 ∧
 R (.returned x3) w2)
theorem gx.vc {a0 a1_0 a1_1 w} (h : gx.pre a0 a1_0 a1_1 w R) : Calls Tryz.prog cn #[.pointer (some a0), .agg #[a1_0, a1_1]] w R :=
 cq ⟨[], [], []⟩ Tryz.func70 h
def fP.pre (a0 : Addr) (a1 : Int) (w : World) (R : Ending → World → Prop) : Prop :=
 Calls Tryz.prog dE #[.pointer (some a0), a1] w (fun e w0 => ∃ (p1 : Option Addr), e = .returned (.pointer p1) ∧
 ∃ (s2 : Sl), ld w0 (ab (some a0) 3) = some (.slice s2.a s2.n s2.c) ∧
 ∀ w3 : World, w3 = w0.alloc (.cells #[.pointer p1] 129) →
 au 8 1 w3 s2 1 [.pointer p1] ∧ ∀ (s4 : Sl) (w5 : World), aq 129 1 w3 s2 1 [.pointer p1] s4 w5 → Kp w0 w3 w5 ∧
 (true = true ∧ Wr w5 (ab (some a0) 3) 1) ∧ bK (ab (some a0) 3) ≠ some w0.heap.size ∧ (∀ w6 : World, w6 = aB w5 (ab (some a0) 3) [s4] →
 R (.returned (.pointer p1)) w6))
theorem fP.vc {a0 a1 w} (h : fP.pre a0 a1 w R) : Calls Tryz.prog cO #[.pointer (some a0), a1] w R :=
 cq ⟨[], [], []⟩ Tryz.func71 h
def gy.pre (a0 : Addr) (w : World) (R : Ending → World → Prop) : Prop :=
 ∃ (s0 : Sl), ld w.drew (ab (some a0) 3) = some (.slice s0.a s0.n s0.c) ∧
 ∃ (x1 : Int), ld w.drew (ab (some a0) 2) = some (.int .i64 x1) ∧
 Br (decide ((((s0.n : Nat) : Int) : Int) < x1))
 (R (.returned (0:Int)) w.drew)
 (∃ (s2 : Sl), ld w.drew (ab (some a0) 3) = some (.slice s2.a s2.n s2.c) ∧
 Calls Tryz.prog bO #[s2, .func (.func 116) #[] #[]] w.drew (fun e w3 => ∃ (x4 : Int), e = .returned x4 ∧
 Br (decide (x4 < 0))
 (R (.returned (8:Int)) w3)
 (∃ (s5 : Sl), ld w3 (ab (some a0) 3) = some (.slice s5.a s5.n s5.c) ∧
 bA s5.a x4 s5.n ∧ ∃ (p6 : Option Addr), ld w3 (ab s5.a ((x4 : Int).toNat * 1)) = some (.pointer p6) ∧
 Calls Tryz.prog eX #[.pointer (some a0), .pointer p6] w3 (fun e w7 => ∃ (x8 : Int), e = .returned x8 ∧
 Br (x8 == 0)
 (Calls Tryz.prog dE #[.pointer (some a0), x4] w7 (fun e w9 => ∃ (p10 : Option Addr), e = .returned (.pointer p10) ∧
 R (.returned x8) w9))
 (R (.returned x8) w7)))))
theorem gy.vc {a0 w} (h : gy.pre a0 w R) : Calls Tryz.prog eZ #[.pointer (some a0)] w R :=
 cq ⟨[], [], []⟩ Tryz.func72 h
def gz.pre (a0 : Addr) (a1 : Int) (w : World) (R : Ending → World → Prop) : Prop :=
 Calls Tryz.prog ov #[a1] w (fun e w0 => ∃ (b1 : Bool), e = .returned (.bool b1) ∧
 Br (!b1)
 (R (.returned (.tuple #[.slice none 0 0, (0:Int), .bool false])) w0)
 (Calls Tryz.prog lE #[.pointer (some a0), a1] w0 (fun e w2 => ∃ (x3 x4 : Int) (s5 : Sl), e = .returned (.agg #[x3, x4, s5]) ∧
 ∀ w6 : World, w6 = w2.alloc (.cells #[(0:Int), (0:Int), .slice none 0 0] 186) →
 ∀ w7 : World, w7 = w6.setRow w2 #[x3, x4, s5] →
 R (.returned (.tuple #[s5, x4, .bool (decide (x4 > 0))])) w7.drew)))
theorem gz.vc {a0 a1 w} (h : gz.pre a0 a1 w R) : Calls Tryz.prog fc #[.pointer (some a0), a1] w R :=
 cq ⟨[], [], []⟩ Tryz.func73 h
def qP.pre (a0_0 a0_1 : Int) (a1 : Sl) (w : World) (R : Ending → World → Prop) : Prop :=
 ∀ w0 : World, w0 = w.alloc (.cells #[a0_0, a0_1] 89) →
 Calls Tryz.prog ow #[a1, (8192:Int)] w0 (fun e w1 => ∃ (s2 : Sl) (x3 : Int), e = .returned (.tuple #[s2, x3]) ∧ Kp w w0 w1 ∧
 Br (x3 != 0)
 (R (.returned (.tuple #[.pointer none, x3])) w1)
 (Calls Tryz.prog ox #[.agg #[a0_0, a0_1], s2] w1 (fun e w4 => ∃ (p5 : Option Addr) (x6 : Int), e = .returned (.tuple #[.pointer p5, x6]) ∧ Kp w w1 w4 ∧
 R (.returned (.tuple #[.pointer p5, x6])) w4)))
theorem qP.vc {a0_0 a0_1 a1 w} (h : qP.pre a0_0 a0_1 a1 w R) : Calls Tryz.prog mv #[.agg #[a0_0, a0_1], a1] w R :=
 cq ⟨[], [], []⟩ Tryz.func74 h
def qQ.pre (a0 a1_0 a1_1 : Int) (w : World) (R : Ending → World → Prop) : Prop :=
 ∀ w0 : World, w0 = w.alloc (.cells #[a1_0, a1_1] 89) →
 (Calls Tryz.prog kc #[a0, .agg #[a1_0, a1_1]] w0.drew (fun e w1 => ∃ (s2 : Sl), e = .returned s2 ∧ Kp w w0.drew w1 ∧
 ∀ w3 : World, w3 = w1.alloc (.cells #[a1_0, a1_1, s2] 183) →
 R (.returned (.pointer (some ⟨w1, 0, none⟩))) w3)) ∧ (Calls Tryz.prog kc #[a0, .agg #[a1_0, a1_1]] w0.drew (fun e w4 => ∃ (s5 : Sl), e = .returned s5 ∧ Kp w w0.drew w4 ∧
 ah w4 (some ⟨w, 0, none⟩) 0 [a1_0, a1_1] ∧ ∀ w6 : World, w6 = w4.alloc (.cells #[a1_0, a1_1, s5] 183) →
 R (.returned (.pointer (some ⟨w4, 0, none⟩))) w6))
theorem qQ.vc {a0 a1_0 a1_1 w} (h : qQ.pre a0 a1_0 a1_1 w R) : Calls Tryz.prog mw #[a0, .agg #[a1_0, a1_1]] w R :=
 cq ⟨[], [], []⟩ Tryz.func75 h
def wS.pre (a0_0 a0_1 : Int) (w : World) (R : Ending → World → Prop) : Prop :=
 ∀ w0 : World, w0 = w.alloc (.cells #[a0_0, a0_1] 89) →
 Br (decide (a0_0 < (-524288)))
 (R (.returned (0:Int)) w0)
 (Br (decide (a0_0 > 524287))
 (R (.returned (0:Int)) w0)
 (Br (decide (a0_1 < (-524288)))
 (R (.returned (0:Int)) w0)
 (Br (decide (a0_1 > 524287))
 (R (.returned (0:Int)) w0)
 (R (.returned ((IntKind.wrap .i64 ((IntKind.wrap .i64 ((IntKind.wrap .i64 ((IntKind.wrap .i64 (a0_0 + 524288)) * 1048576)) + (IntKind.wrap .i64 (a0_1 + 524288)))) + 1)))) w0))))
theorem wS.vc {a0_0 a0_1 w} (h : wS.pre a0_0 a0_1 w R) : Calls Tryz.prog wK #[.agg #[a0_0, a0_1]] w R :=
 cq ⟨[], [], []⟩ Tryz.func76 h
def qR.pre (a0_0 a0_1 : Int) (a1 : Sl) (w : World) (R : Ending → World → Prop) : Prop :=
 ∀ w0 : World, w0 = w.alloc (.cells #[a0_0, a0_1] 89) →
 ∀ w1 : World, w1 = w0.alloc (.cells #[(0:Int), (0:Int), .slice none 0 0] 108) →
 Calls Tryz.prog ml #[a1, (8192:Int)] w1 (fun e w2 => ∃ (s3 : Sl) (x4 : Int), e = .returned (.tuple #[s3, x4]) ∧ Kp w w1 w2 ∧ Kp w0 w1 w2 ∧
 Br (x4 != 0)
 (∀ w5 : World, w5 = w2.setRow w0 #[(0:Int), (0:Int), .slice none 0 0] →
 R (.returned (.tuple #[.agg #[(0:Int), (0:Int), .slice none 0 0], x4])) w5)
 (∀ w6 : World, w6 = w2.setRow w0 #[a0_0, a0_1, s3] →
 R (.returned (.tuple #[.agg #[a0_0, a0_1, s3], (0:Int)])) w6))
theorem qR.vc {a0_0 a0_1 a1 w} (h : qR.pre a0_0 a0_1 a1 w R) : Calls Tryz.prog rZ #[.agg #[a0_0, a0_1], a1] w R :=
 cq ⟨[], [], []⟩ Tryz.func81 h
def qS.pre (a0 a1_0 a1_1 : Int) (w : World) (R : Ending → World → Prop) : Prop :=
 ∀ w0 : World, w0 = w.alloc (.cells #[a1_0, a1_1] 89) →
 ∀ w1 : World, w1 = w0.alloc (.cells #[(0:Int), (0:Int), .slice none 0 0] 108) →
 Calls Tryz.prog kT #[a0, .agg #[a1_0, a1_1]] w1.drew (fun e w2 => ∃ (s3 : Sl), e = .returned s3 ∧ Kp w w1.drew w2 ∧ Kp w0 w1.drew w2 ∧
 ah w2 (some ⟨w, 0, none⟩) 0 [a1_0, a1_1] ∧ ∀ w4 : World, w4 = w2.setRow w0 #[a1_0, a1_1, s3] →
 R (.returned (.agg #[a1_0, a1_1, s3])) w4)
theorem qS.vc {a0 a1_0 a1_1 w} (h : qS.pre a0 a1_0 a1_1 w R) : Calls Tryz.prog r6 #[a0, .agg #[a1_0, a1_1]] w R :=
 cq ⟨[], [], []⟩ Tryz.func82 h
def qu.pre (a0_0 a0_1 a0_2 : Int) (w : World) (R : Ending → World → Prop) : Prop :=
 ∀ w0 : World, w0 = w.alloc (.cells #[a0_0, a0_1, a0_2] 23) →
 ∀ w1 : World, w1 = w0.alloc (.cells #[(0:Int), (0:Int)] 89) →
 Calls Tryz.prog gl #[a0_0, (16:Int)] w1.drew (fun e w2 => ∃ (x3 : Int), e = .returned x3 ∧ Kp w w1.drew w2 ∧ Kp w0 w1.drew w2 ∧
 ah w2 (some ⟨w, 2, none⟩) 0 [a0_2] ∧ Calls Tryz.prog gl #[a0_2, (16:Int)] w2 (fun e w4 => ∃ (x5 : Int), e = .returned x5 ∧ Kp w w2 w4 ∧ Kp w0 w2 w4 ∧
 ∀ w6 : World, w6 = w4.setRow w0 #[x3, x5] →
 R (.returned (.agg #[x3, x5])) w6))
theorem qu.vc {a0_0 a0_1 a0_2 w} (h : qu.pre a0_0 a0_1 a0_2 w R) : Calls Tryz.prog eg #[.agg #[a0_0, a0_1, a0_2]] w R :=
 cq ⟨[], [], []⟩ Tryz.func85 h
def jL.pre (a0 : Addr) (a1_0 a1_1 a1_2 : Int) (w : World) (R : Ending → World → Prop) : Prop :=
 ∀ w0 : World, w0 = w.alloc (.cells #[a1_0, a1_1, a1_2] 23) →
 ∃ (x1 x2 : Int), ah w0.drew (ab (some a0) 0) 0 [x1, x2] ∧
 Calls Tryz.prog cN #[.agg #[x1, x2], .agg #[a1_0, a1_1, a1_2]] w0.drew (fun e w3 => ∃ (x4 : Int) (b5 : Bool), e = .returned (.tuple #[x4, .bool b5]) ∧ Kp w w0.drew w3 ∧
 Br (!b5)
 (R (.returned (.tuple #[(0:Int), .bool false])) w3)
 (∃ (s6 : Sl), ld w3 (ab (some a0) 2) = some (.slice s6.a s6.n s6.c) ∧
 Calls Tryz.prog tD #[s6, x4] w3 (fun e w7 => ∃ (x8 : Int), e = .returned x8 ∧ Kp w w3 w7 ∧
 R (.returned (.tuple #[x8, .bool true])) w7)))
theorem jL.vc {a0 a1_0 a1_1 a1_2 w} (h : jL.pre a0 a1_0 a1_1 a1_2 w R) : Calls Tryz.prog ei #[.pointer (some a0), .agg #[a1_0, a1_1, a1_2]] w R :=
 cq ⟨[], [], []⟩ Tryz.func86 h
def fA.pre (a0 : Addr) (a1_0 a1_1 a1_2 : Int) (w : World) (R : Ending → World → Prop) : Prop :=
 ∀ w0 : World, w0 = w.alloc (.cells #[a1_0, a1_1, a1_2] 23) →
 ∃ (p1 : Option Addr), ld w0 (ab (some a0) 0) = some (.pointer p1) ∧
 Calls Tryz.prog c9 #[.pointer p1] w0 (fun e w2 => ∃ (s3 : Sl), e = .returned s3 ∧ Kp w w0 w2 ∧
 Calls Tryz.prog eg #[.agg #[a1_0, a1_1, a1_2]] w2 (fun e w4 => ∃ (x5 x6 : Int), e = .returned (.agg #[x5, x6]) ∧ Kp w w2 w4 ∧
 Calls Tryz.prog kF #[.agg #[x5, x6]] w4 (fun e w7 => ∃ (x8 x9 x10 x11 x12 x13 x14 x15 x16 x17 : Int), e = .returned (.agg #[x8, x9, x10, x11, x12, x13, x14, x15, x16, x17]) ∧ Kp w w4 w7 ∧
 ∃ I18 : Nat → Int → World → Prop,
 (∃ n19, aT [a1_0, a1_1, a1_2] ∧ I18 n19 (0) w7) ∧
 ∀ (n19 : Nat) (us20 : Nat → Value) (x21 : Int) (w22 : World), I18 n19 x21 w22 →
 Br (decide (x21 < 5))
 (((0 : Int) ≤ x21 ∧ x21 < ((5 : Nat) : Int)) ∧ ∃ (x24 x25 : Int), (([x8, x9, x10, x11, x12, x13, x14, x15, x16, x17] : List Value).drop ((x21 : Int).toNat * 2)).take 2 = [.int .i64 x24, .int .i64 x25] ∧
 ∀ w26 : World, w26 = w22.alloc (.cells #[(0:Int), (0:Int)] 89) →
 ∀ w27 : World, w27 = w26.setRow w22 #[x24, x25] →
 Calls Tryz.prog dw #[s3, .agg #[x24, x25]] w27 (fun e w28 => ∃ (b29 : Bool), e = .returned (.bool b29) ∧ Kp w w27 w28 ∧ Kp w22 w27 w28 ∧
 Br (!b29)
 (R (.returned (.bool false)) w28)
 (∃ n23, n23 < n19 ∧ aT [a1_0, a1_1, a1_2] ∧ I18 n23 ((IntKind.wrap .i64 (x21 + 1))) w28)))
 (R (.returned (.bool true)) w22))))
theorem fA.vc {a0 a1_0 a1_1 a1_2 w} (h : fA.pre a0 a1_0 a1_1 a1_2 w R) : Calls Tryz.prog iS #[.pointer (some a0), .agg #[a1_0, a1_1, a1_2]] w R :=
 cq ⟨[(3, ⟨[(16, .int .i64)], [], []⟩)], [], []⟩ Tryz.func91 h
def oI.pre (a0 : Int) (w : World) (R : Ending → World → Prop) : Prop :=
 R (.returned (.bool (a0 == 3))) w
theorem oI.vc {a0 w} (h : oI.pre a0 w R) : Calls Tryz.prog pY #[a0] w R :=
 cq ⟨[], [], []⟩ Tryz.func94 h
def tg.pre (a0 a1 : Int) (w : World) (R : Ending → World → Prop) : Prop :=
 Br (decide (a1 < 1))
 (R (.returned (0:Int)) w)
 (Calls Tryz.prog nN #[a0, a1] w (fun e w0 => ∃ (x1 : Int), e = .returned x1 ∧
 R (.returned x1) w0))
theorem tg.vc {a0 a1 w} (h : tg.pre a0 a1 w R) : Calls Tryz.prog bz #[a0, a1] w R :=
 cq ⟨[], [], []⟩ Tryz.func96 h
def oJ.pre (a0_0 a0_1 : Int) (a0_2 : Sl) (a1_0 a1_1 a1_2 : Int) (w : World) (R : Ending → World → Prop) : Prop :=
 ∀ w0 : World, w0 = w.alloc (.cells #[a0_0, a0_1, a0_2] 108) →
 ∀ w1 : World, w1 = w0.alloc (.cells #[a1_0, a1_1, a1_2] 23) →
 Calls Tryz.prog kJ #[.agg #[a1_0, a1_1, a1_2]] w1 (fun e w2 => ∃ (x3 : Int) (b4 : Bool), e = .returned (.tuple #[x3, .bool b4]) ∧ Kp w w1 w2 ∧ Kp w0 w1 w2 ∧
 Br (!b4)
 (R (.returned (.int .i64 (-1))) w2.drew)
 (Calls Tryz.prog kK #[.agg #[a1_0, a1_1, a1_2]] w2.drew (fun e w5 => ∃ (x6 x7 : Int), e = .returned (.agg #[x6, x7]) ∧ Kp w w2.drew w5 ∧ Kp w0 w2.drew w5 ∧
 ah w5 (some ⟨w, 0, none⟩) 0 [a0_0, a0_1] ∧ Br (!((x6 == a0_0) && (x7 == a0_1)))
 (R (.returned (.int .i64 (-1))) w5)
 (R (.returned x3) w5))))
theorem oJ.vc {a0_0 a0_1 a0_2 a1_0 a1_1 a1_2 w} (h : oJ.pre a0_0 a0_1 a0_2 a1_0 a1_1 a1_2 w R) : Calls Tryz.prog gR #[.agg #[a0_0, a0_1, a0_2], .agg #[a1_0, a1_1, a1_2]] w R :=
 cq ⟨[], [], []⟩ Tryz.func97 h
end Go.Proofs.YtalpkjfpmdpbiaaGreatDoor
