import Derived.Test.YtalpkjfpmdpbiaaGreatDoorChecked
import Derived.KernelRfl
import Derived.Test.YtalpkjfpmdpbiaaGreatDoorLib
set_option linter.all false
namespace Go.Proofs.YtalpkjfpmdpbiaaGreatDoor
open Go Go.Vc Go.RowKit Go.Proofs
set_option maxRecDepth 100000
set_option maxHeartbeats 8000000
variable {R:Ending->World->Prop}
set_option linter.unusedVariables false
theorem Tryz.Jn:tm Tryz.prog:=HO (by kernel_rfl)
theorem Tryz.mixed:Tryz.prog.follows .mixedOrders=true:=by kernel_rfl
theorem cq {pre : Prop} {f : FuncId} {fn : Func} (an : HP) {args : List Value} {w : World} {R : Ending → World → Prop} (hf : Tryz.prog.funcs[f]? = some fn) (h : pre) (k : pre = Gk Tryz.prog an fn args w R := by kernel_rfl) : Calls Tryz.prog f args.toArray w R :=
 y2 (an := an) Tryz.Jn Tryz.mixed hf h k
abbrev iu:FuncId:=104
abbrev dB:FuncId:=105
abbrev dj:FuncId:=106
abbrev eF:FuncId:=107
abbrev dm:FuncId:=108
abbrev mV:FuncId:=111
abbrev bF:FuncId:=113
abbrev mW:FuncId:=114
abbrev bM:FuncId:=115
abbrev mX:FuncId:=116
abbrev mY:FuncId:=117
abbrev kE:FuncId:=118
abbrev mZ:FuncId:=119
abbrev iQ:FuncId:=11
abbrev m7:FuncId:=120
abbrev jF:FuncId:=121
abbrev lr:FuncId:=126
abbrev j6:FuncId:=127
abbrev fH:FuncId:=128
abbrev cA:FuncId:=129
abbrev rp:FuncId:=130
abbrev jH:FuncId:=134
abbrev cP:FuncId:=135
abbrev jW:FuncId:=136
abbrev c5:FuncId:=137
abbrev oH:FuncId:=140
abbrev mL:FuncId:=144
abbrev m8:FuncId:=146
abbrev fI:FuncId:=148
abbrev lu:FuncId:=149
abbrev pn:FuncId:=150
abbrev dZ:FuncId:=152
abbrev po:FuncId:=157
abbrev mb:FuncId:=158
abbrev qp:FuncId:=159
abbrev j7:FuncId:=160
abbrev lv:FuncId:=161
abbrev aY:FuncId:=162
abbrev na:FuncId:=163
abbrev rq:FuncId:=164
abbrev fe:FuncId:=165
abbrev fg:FuncId:=173
abbrev kY:FuncId:=174
abbrev j0:FuncId:=175
abbrev o5:FuncId:=176
abbrev eu:FuncId:=184
abbrev nc:FuncId:=185
abbrev oI:FuncId:=187
abbrev j8:FuncId:=190
abbrev ja:FuncId:=191
abbrev ng:FuncId:=192
abbrev lx:FuncId:=196
abbrev gT:FuncId:=202
abbrev cy:FuncId:=203
abbrev oV:FuncId:=204
abbrev vO:FuncId:=206
abbrev mM:FuncId:=207
abbrev lh:FuncId:=208
abbrev uu:FuncId:=209
abbrev dC:FuncId:=210
abbrev iT:FuncId:=219
abbrev jb:FuncId:=225
abbrev nh:FuncId:=226
abbrev ly:FuncId:=227
abbrev ni:FuncId:=228
abbrev j9:FuncId:=234
abbrev fh:FuncId:=236
abbrev cG:FuncId:=238
abbrev pc:FuncId:=239
abbrev dL:FuncId:=241
abbrev eS:FuncId:=243
abbrev gU:FuncId:=250
abbrev ef:FuncId:=253
abbrev jy:FuncId:=27
abbrev sG:FuncId:=35
abbrev ic:FuncId:=37
abbrev cQ:FuncId:=38
abbrev bc:FuncId:=43
abbrev jC:FuncId:=44
abbrev dn:FuncId:=59
abbrev jI:FuncId:=67
abbrev lz:FuncId:=69
abbrev bX:FuncId:=70
abbrev cB:FuncId:=71
abbrev eG:FuncId:=72
abbrev eH:FuncId:=73
abbrev lA:FuncId:=74
abbrev lB:FuncId:=75
abbrev uy:FuncId:=76
abbrev qq:FuncId:=81
abbrev qt:FuncId:=82
abbrev dK:FuncId:=85
abbrev dO:FuncId:=86
abbrev ie:FuncId:=91
abbrev oJ:FuncId:=94
abbrev bS:FuncId:=96
def oW.pre (a0_0 a0_1 a0_2 : Int) (w : World) (R : Ending → World → Prop) : Prop :=
 ∀ w0 : World, w0 = w.alloc (.cells #[a0_0, a0_1, a0_2] 23) →
 Br (decide (a0_1 < 0))
 (R (.returned (.tuple #[(0:Int), .bool false])) w0)
 (Br (decide (a0_1 ≥ 32))
 (R (.returned (.tuple #[(0:Int), .bool false])) w0)
 (Calls Tryz.prog fI #[a0_2, (16:Int)] w0.drew (fun e w1 => ∃ (x2 : Int), e = .returned x2 ∧ Kp w w0.drew w1 ∧
 aj w1 (some ⟨w, 0, none⟩) 0 [a0_0] ∧ aj w1 (some ⟨w, 1, none⟩) 0 [a0_1] ∧ Calls Tryz.prog fI #[a0_0, (16:Int)] w1 (fun e w3 => ∃ (x4 : Int), e = .returned x4 ∧ Kp w w1 w3 ∧
 aj w3 (some ⟨w, 1, none⟩) 0 [a0_1] ∧ R (.returned (.tuple #[(IntKind.wrap .i64 ((IntKind.wrap .i64 ((IntKind.wrap .i64 ((IntKind.wrap .i64 (a0_1 * 16)) + x2)) * 16)) + x4)), .bool true])) w3))))
theorem oW.vc {a0_0 a0_1 a0_2 w} (h : oW.pre a0_0 a0_1 a0_2 w R) : Calls Tryz.prog iu #[.agg #[a0_0, a0_1, a0_2]] w R :=
 cq ⟨[], [], []⟩ Tryz.func104 h
def ru.pre (a0 : Int) (w : World) (R : Ending → World → Prop) : Prop :=
 Calls Tryz.prog lu #[a0] w (fun e w0 => ∃ (t1 : ByteArray), e = .returned (.string t1) ∧
 R (.returned (.bool (!oC t1 (ByteArray.mk #[])))) w0)
theorem ru.vc {a0 w} (h : ru.pre a0 w R) : Calls Tryz.prog dB #[a0] w R :=
 cq ⟨[], [], []⟩ Tryz.func105 h
def gV.pre (a0 : Addr) (a1_0 a1_1 a1_2 a2 : Int) (w : World) (R : Ending → World → Prop) : Prop :=
 ∀ w0 : World, w0 = w.alloc (.cells #[a1_0, a1_1, a1_2] 23) →
 ∃ (x1 x2 : Int), aj w0.drew (ae (some a0) 0) 0 [x1, x2] ∧
 Calls Tryz.prog cA #[.agg #[x1, x2], .agg #[a1_0, a1_1, a1_2]] w0.drew (fun e w3 => ∃ (x4 : Int) (b5 : Bool), e = .returned (.tuple #[x4, .bool b5]) ∧ Kp w w0.drew w3 ∧
 Br (!b5)
 (R (.returned (5:Int)) w3)
 (Calls Tryz.prog dB #[a2] w3 (fun e w6 => ∃ (b7 : Bool), e = .returned (.bool b7) ∧ Kp w w3 w6 ∧
 Br (!b7)
 (R (.returned (1:Int)) w6)
 (∃ (s8 : Sl), ld w6 (ae (some a0) 2) = some (.slice s8.a s8.n s8.c) ∧
 Calls Tryz.prog pn #[s8, x4, a2] w6 (fun e w9 => ∃ (s10 : Sl), e = .returned s10 ∧ Kp w w6 w9 ∧
 (true = true ∧ Wr w9 (ae (some a0) 2) 1) ∧ bD (ae (some a0) 2) ≠ some w.heap.size ∧ (∀ w11 : World, w11 = aA w9 (ae (some a0) 2) [s10] →
 R (.returned (0:Int)) w11))))))
theorem gV.vc {a0 a1_0 a1_1 a1_2 a2 w} (h : gV.pre a0 a1_0 a1_1 a1_2 a2 w R) : Calls Tryz.prog dj #[.pointer (some a0), .agg #[a1_0, a1_1, a1_2], a2] w R :=
 cq ⟨[], [], []⟩ Tryz.func106 h
def fM.pre (a0 a1 : Addr) (w : World) (R : Ending → World → Prop) : Prop :=
 ∃ (b0 : Bool), ld w (ae (some a1) 1) = some (.bool b0) ∧
 Br (!b0)
 (R (.returned (0:Int)) w)
 (∃ (p1 : Option Addr), ld w (ae (some a1) 0) = some (.pointer p1) ∧
 aV (ik p1) (aV (ik p1) (∃ (x2 x3 : Int), aj w (ae p1 0) 0 [x2, x3] ∧
 Calls Tryz.prog bM #[.agg #[x2, x3]] w (fun e w4 => ∃ (x5 x6 : Int), e = .returned (.agg #[x5, x6]) ∧
 Calls Tryz.prog lz #[.agg #[x5, x6]] w4 (fun e w7 => ∃ (x8 : Int) (b9 : Bool), e = .returned (.tuple #[x8, .bool b9]) ∧
 ∃ (p10 : Option Addr), ld w7.drew (ae (some a0) 0) = some (.pointer p10) ∧
 ∃ (p11 : Option Addr), ld w7.drew (ae (some a1) 0) = some (.pointer p11) ∧
 Calls Tryz.prog dZ #[.pointer p11] w7.drew (fun e w12 => ∃ (s13 : Sl), e = .returned s13 ∧
 aj w12 (ae (some a0) 0) 0 [.pointer p10] ∧ Calls Tryz.prog 151 #[.pointer p10, x8, s13] w12 (fun e w14 => ∃ (x15 : Int), e = .returned x15 ∧
 (true = true ∧ Wr w14 (ae (some a1) 1) 1) ∧ (∀ w16 : World, w16 = aA w14 (ae (some a1) 1) [.bool (x15 != 0)] →
 R (.returned x15) w16))))))))
theorem fM.vc {a0 a1 w} (h : fM.pre a0 a1 w R) : Calls Tryz.prog eF #[.pointer (some a0), .pointer (some a1)] w R :=
 cq ⟨[], [], []⟩ Tryz.func107 h
def gW.pre (a0 : Addr) (a1 : Int) (w : World) (R : Ending → World → Prop) : Prop :=
 ∃ (s0 : Sl), ld w (ae (some a0) 3) = some (.slice s0.a s0.n s0.c) ∧
 cn s0.a a1 s0.n ∧ ∃ (p1 : Option Addr), ld w (ae s0.a ((a1 : Int).toNat * 1)) = some (.pointer p1) ∧
 ∃ (s2 : Sl), ld w.drew (ae (some a0) 3) = some (.slice s2.a s2.n s2.c) ∧
 (0 : Int) ≤ a1 ∧ a1 ≤ ((s2.c : Nat) : Int) ∧ (0 : Int) ≤ a1 ∧ a1 ≤ a1 ∧ ∃ (s3 : Sl), ld w.drew (ae (some a0) 3) = some (.slice s3.a s3.n s3.c) ∧
 (0 : Int) ≤ (IntKind.wrap .i64 (a1 + 1)) ∧ (IntKind.wrap .i64 (a1 + 1)) ≤ ((s3.n : Nat) : Int) ∧ ∃ l4 : List Value, Rd w.drew (ai s3.a (((IntKind.wrap .i64 (a1 + 1)) : Int).toNat) (s3.c) 1) l4 ∧ az 8 1 w.drew ⟨(ai s2.a (0) ((a1 : Int).toNat) 1), ((a1 : Int).toNat - 0), ((a1 : Int).toNat - 0)⟩ (s3.n - ((IntKind.wrap .i64 (a1 + 1)) : Int).toNat) l4 ∧ ∀ (s5 : Sl) (w6 : World), av 129 1 w.drew ⟨(ai s2.a (0) ((a1 : Int).toNat) 1), ((a1 : Int).toNat - 0), ((a1 : Int).toNat - 0)⟩ (s3.n - ((IntKind.wrap .i64 (a1 + 1)) : Int).toNat) l4 s5 w6 →
 aj w6 (ae (some a0) 3) 0 [s3] ∧ aj w6 (ae (some a0) 3) 0 [s2] ∧ (true = true ∧ Wr w6 (ae (some a0) 3) 1) ∧ (∀ w7 : World, w7 = aA w6 (ae (some a0) 3) [s5] →
 R (.returned (.pointer p1)) w7)
theorem gW.vc {a0 a1 w} (h : gW.pre a0 a1 w R) : Calls Tryz.prog dm #[.pointer (some a0), a1] w R :=
 cq ⟨[], [], []⟩ Tryz.func108 h
def rz.pre (a0 : Int) (w : World) (R : Ending → World → Prop) : Prop :=
 Calls Tryz.prog po #[a0] w (fun e w0 => ∃ (p1 : Option Addr), e = .returned (.pointer p1) ∧
 ∀ w2 : World, w2 = w0.alloc (.cells #[.pointer p1] 224) →
 R (.returned (.pointer (some ⟨w0, 0, none⟩))) w2)
theorem rz.vc {a0 w} (h : rz.pre a0 w R) : Calls Tryz.prog mV #[a0] w R :=
 cq ⟨[], [], []⟩ Tryz.func111 h
def c8.pre (a0 : Sl) (a1 : Value) (w : World) (R : Ending → World → Prop) : Prop :=
 ∃ I0 : Nat → Int → World → Prop,
 (∃ n1, I0 n1 (0) w) ∧
 ∀ (n1 : Nat) (us2 : Nat → Value) (x3 : Int) (w4 : World), I0 n1 x3 w4 →
 Br (decide (x3 < ((a0.n : Nat) : Int)))
 (cn a0.a x3 a0.n ∧ ∃ (p6 : Option Addr), ld w4 (ae a0.a ((x3 : Int).toNat * 1)) = some (.pointer p6) ∧
 a8 Tryz.prog a1 [.pointer p6] w4 (fun e w7 => ∃ (b8 : Bool), e = .returned (.bool b8) ∧
 Br b8
 (R (.returned x3) w7)
 (∃ n5, n5 < n1 ∧ I0 n5 ((IntKind.wrap .i64 (x3 + 1))) w7)))
 (R (.returned (.int .i64 (-1))) w4)
theorem c8.vc {a0 a1 w} (h : c8.pre a0 a1 w R) : Calls Tryz.prog bF #[a0, a1] w R :=
 cq ⟨[(2, ⟨[(8, .int .i64)], [], []⟩)], [], []⟩ Tryz.func113 h
def eI.pre (a0 c0 : Addr) (w : World) (R : Ending → World → Prop) : Prop :=
 ∃ (p0 : Option Addr), ld w.drew (ae (some a0) 0) = some (.pointer p0) ∧
 aV (ik p0) (aV (ik p0) (∃ (x1 x2 : Int), aj w.drew (ae p0 0) 0 [x1, x2] ∧
 ∃ (x3 x4 : Int), aj w.drew (some c0) 0 [x3, x4] ∧
 Calls Tryz.prog bM #[.agg #[x1, x2]] w.drew (fun e w5 => ∃ (x6 x7 : Int), e = .returned (.agg #[x6, x7]) ∧
 aj w5 (some c0) 0 [x3, x4] ∧ aj w5 (ae (some a0) 0) 0 [.pointer p0] ∧ R (.returned (.bool ((x6 == x3) && (x7 == x4)))) w5)))
theorem eI.vc {a0 c0 w} (h : eI.pre a0 c0 w R) : Calls Tryz.prog mW #[.pointer (some a0), .pointer (some c0)] w R :=
 cq ⟨[], [], []⟩ Tryz.func114 h
def fi.pre (a0_0 a0_1 : Int) (w : World) (R : Ending → World → Prop) : Prop :=
 ∀ w0 : World, w0 = w.alloc (.cells #[a0_0, a0_1] 181) →
 ∀ w1 : World, w1 = w0.alloc (.cells #[(0:Int), (0:Int)] 89) →
 ∀ w2 : World, w2 = w1.setRow w0 #[a0_0, a0_1] →
 R (.returned (.agg #[a0_0, a0_1])) w2
theorem fi.vc {a0_0 a0_1 w} (h : fi.pre a0_0 a0_1 w R) : Calls Tryz.prog bM #[.agg #[a0_0, a0_1]] w R :=
 cq ⟨[], [], []⟩ Tryz.func115 h
def eJ.pre (a0 : Addr) (w : World) (R : Ending → World → Prop) : Prop :=
 ∃ (x0 : Int), ld w (ae (some a0) 2) = some (.int .i64 x0) ∧
 R (.returned (.bool (x0 == 0))) w
theorem eJ.vc {a0 w} (h : eJ.pre a0 w R) : Calls Tryz.prog mX #[.pointer (some a0)] w R :=
 cq ⟨[], [], []⟩ Tryz.func116 h
def rA.pre (a0 : Int) (w : World) (R : Ending → World → Prop) : Prop :=
 Br (decide (a0 ≥ 0))
 (R (.returned (.bool (decide (a0 ≤ 1099511627776)))) w)
 (R (.returned (.bool false)) w)
theorem rA.vc {a0 w} (h : rA.pre a0 w R) : Calls Tryz.prog mY #[a0] w R :=
 cq ⟨[], [], []⟩ Tryz.func117 h
def rB.pre (a0 : Sl) (a1 : Int) (w : World) (R : Ending → World → Prop) : Prop :=
 ∃ I0 : Nat → Sl → Int → Int → Sl → World → Prop,
 (∃ n1, I0 n1 a0 ((-1)) a1 ⟨none, 0, 0⟩ w) ∧
 ∀ (n1 : Nat) (us2 : Nat → Value) (s3 : Sl) (x4 x5 : Int) (s6 : Sl) (w7 : World), I0 n1 s3 x4 x5 s6 w7 →
 Br (decide ((((s3.n : Nat) : Int) : Int) > 0))
 (cn s3.a 0 s3.n ∧ ∃ (x9 : Int), ld w7 (ae s3.a ((0 : Int).toNat * 1)) = some (.int .u8 x9) ∧
 ∀ w10 : World, w10 = w7.alloc (.cells #[(0:Int), (0:Int)] 166) →
 ∀ w11 : World, w11 = w10.setRow w7 #[(0:Int), (IntKind.wrap .i64 x9)] →
 Calls Tryz.prog dB #[(IntKind.wrap .i64 x9)] w11 (fun e w12 => ∃ (b13 : Bool), e = .returned (.bool b13) ∧ Kp w7 w11 w12 ∧
 Br (!b13)
 (R (.returned (.tuple #[.slice none 0 0, (2:Int)])) w12)
 (Br (((IntKind.wrap .i64 x9) : Int) == x4)
 (R (.returned (.tuple #[.slice none 0 0, (2:Int)])) w12)
 ((0 : Int) ≤ ((s3.n : Nat) : Int) ∧ ((s3.n : Nat) : Int) ≤ ((s3.c : Nat) : Int) ∧ (0 : Int) ≤ ((s3.n : Nat) : Int) ∧ (((s3.n : Nat) : Int) : Int) ≤ ((s3.n : Nat) : Int) ∧ (0 : Int) ≤ 1 ∧ (1 : Int) ≤ ((s3.n : Nat) : Int) ∧ Calls Tryz.prog j7 #[.slice (ai s3.a ((1 : Int).toNat) ((((s3.n : Nat) : Int) : Int).toNat) 1) ((((s3.n : Nat) : Int) : Int).toNat - (1 : Int).toNat) ((((s3.n : Nat) : Int) : Int).toNat - (1 : Int).toNat)] w12 (fun e w14 => ∃ (x15 x16 x17 : Int), e = .returned (.tuple #[x15, x16, x17]) ∧ Kp w7 w12 w14 ∧
 Br (x17 != 0)
 (R (.returned (.tuple #[.slice none 0 0, x17])) w14)
 (Br (x15 == 0)
 (R (.returned (.tuple #[.slice none 0 0, (2:Int)])) w14)
 (Br (decide (x15 > x5))
 (R (.returned (.tuple #[.slice none 0 0, (2:Int)])) w14)
 (∀ w18 : World, w18 = w14.setRow w7 #[x15, (IntKind.wrap .i64 x9)] →
 (0 : Int) ≤ (IntKind.wrap .i64 (1 + x16)) ∧ (IntKind.wrap .i64 (1 + x16)) ≤ ((s3.n : Nat) : Int) ∧ ∀ w19 : World, w19 = w18.drew.alloc (.cells #[x15, (IntKind.wrap .i64 x9)] 166) →
 az 16 2 w19 s6 1 [x15, (IntKind.wrap .i64 x9)] ∧ ∀ (s20 : Sl) (w21 : World), av 166 2 w19 s6 1 [x15, (IntKind.wrap .i64 x9)] s20 w21 → Kp w7 w19 w21 ∧ w21.heap[w18.drew.heap.size]? = w19.heap[w18.drew.heap.size]? ∧
 Br (((IntKind.wrap .i64 (x5 - x15)) : Int) == 0)
 (Br (decide (((IntKind.wrap .i64 (x5 - x15)) : Int) > 0))
 (R (.returned (.tuple #[.slice none 0 0, (3:Int)])) w21)
 (Br (decide (((((s3.n - ((IntKind.wrap .i64 (1 + x16)) : Int).toNat) : Nat) : Int) : Int) > 0))
 (R (.returned (.tuple #[.slice none 0 0, (2:Int)])) w21)
 (R (.returned (.tuple #[s20, (0:Int)])) w21)))
 (∃ n8, n8 < n1 ∧ I0 n8 ⟨(ai s3.a (((IntKind.wrap .i64 (1 + x16)) : Int).toNat) (s3.c) 1), (s3.n - ((IntKind.wrap .i64 (1 + x16)) : Int).toNat), (s3.c - ((IntKind.wrap .i64 (1 + x16)) : Int).toNat)⟩ ((IntKind.wrap .i64 x9)) ((IntKind.wrap .i64 (x5 - x15))) s20 w21)))))))))
 (Br (decide (x5 > 0))
 (R (.returned (.tuple #[.slice none 0 0, (3:Int)])) w7)
 (Br (decide ((((s3.n : Nat) : Int) : Int) > 0))
 (R (.returned (.tuple #[.slice none 0 0, (2:Int)])) w7)
 (R (.returned (.tuple #[s6, (0:Int)])) w7)))
theorem rB.vc {a0 a1 w} (h : rB.pre a0 a1 w R) : Calls Tryz.prog mZ #[a0, a1] w R :=
 cq ⟨[(3, ⟨[(0, .slice), (7, .int .i64), (1, .int .i64), (6, .slice)], [], []⟩)], [], []⟩ Tryz.func119 h
def fB.pre (a0 : Addr) (w : World) (R : Ending → World → Prop) : Prop :=
 ∃ (p0 : Option Addr), ld w (ae (some a0) 0) = some (.pointer p0) ∧
 R (.returned (.func (.func 43) #[.pointer p0] #[])) w
theorem fB.vc {a0 w} (h : fB.pre a0 w R) : Calls Tryz.prog iQ #[.pointer (some a0)] w R :=
 cq ⟨[], [], []⟩ Tryz.func11 h
def rC.pre (a0_0 a0_1 : Int) (a1 : Sl) (w : World) (R : Ending → World → Prop) : Prop :=
 ∀ w0 : World, w0 = w.alloc (.cells #[a0_0, a0_1] 89) →
 Calls Tryz.prog lv #[a1, (8192:Int)] w0 (fun e w1 => ∃ (b2 : Bool), e = .returned (.bool b2) ∧ Kp w w0 w1 ∧
 Br (!b2)
 (R (.returned (.tuple #[.pointer none, (1:Int)])) w1)
 ((Calls Tryz.prog aY #[a1] w1.drew (fun e w3 => ∃ (s4 : Sl), e = .returned s4 ∧ Kp w w1.drew w3 ∧
 ∀ w5 : World, w5 = w3.alloc (.cells #[a0_0, a0_1, s4] 183) →
 R (.returned (.tuple #[.pointer (some ⟨w3, 0, none⟩), (0:Int)])) w5)) ∧ (Calls Tryz.prog aY #[a1] w1.drew (fun e w6 => ∃ (s7 : Sl), e = .returned s7 ∧ Kp w w1.drew w6 ∧
 aj w6 (some ⟨w, 0, none⟩) 0 [a0_0, a0_1] ∧ ∀ w8 : World, w8 = w6.alloc (.cells #[a0_0, a0_1, s7] 183) →
 R (.returned (.tuple #[.pointer (some ⟨w6, 0, none⟩), (0:Int)])) w8))))
theorem rC.vc {a0_0 a0_1 a1 w} (h : rC.pre a0_0 a0_1 a1 w R) : Calls Tryz.prog m7 #[.agg #[a0_0, a0_1], a1] w R :=
 cq ⟨[], [], []⟩ Tryz.func120 h
def ri.pre (a0 : Int) (a1_0 : Int) (a1_1 : Int) (w : World) (R : Ending → World → Prop) : Prop :=
 ∀ w0 : World, w0 = w.alloc (.cells #[.int .i64 a1_0, .int .i64 a1_1] 89) →
 ∀ w1 : World, w1 = w0.alloc (.cells #[.slice none 0 0] 111) →
 Calls Tryz.prog na #[.int .i64 a0, .agg #[.int .i64 a1_0, .int .i64 a1_1]] w1 (fun e w2 => ∃ (v3 : Value), e = .returned (v3) ∧ w2.heap[w.heap.size]? = w1.heap[w.heap.size]? ∧ w2.heap[w0.heap.size]? = w1.heap[w0.heap.size]? ∧
 ∃ (xs4 : List (List Value)) (Rd5 F6 : Nat → Prop) (I7 : Nat → (Nat → Prop) → Sl → World → Prop) (X8 : Option Nat → (Nat → Prop) → Sl → World → Prop),
 (∀ x ∈ xs4, ∃ (x9 : Int), x = [.int .i64 x9]) ∧
 (∀ (n10 : Nat) (F11 : Nat → Prop) (s12 : Sl) (w13 w14 : World), I7 n10 F11 s12 w13 → Below w2.heap.size w13 w14 → (∀ i, F11 i → w14.heap[i]? = w13.heap[i]?) → I7 n10 F11 s12 w14) ∧
 (∀ (n15 : Option Nat) (F16 : Nat → Prop) (s17 : Sl) (w18 w19 : World), X8 n15 F16 s17 w18 → Below w2.heap.size w18 w19 → (∀ i, F16 i → w19.heap[i]? = w18.heap[i]?) → X8 n15 F16 s17 w19) ∧
 (∀ (n20 : Nat) (F21 : Nat → Prop) (s22 : Sl) (w23 : World), I7 n20 F21 s22 w23 → ∀ i, F21 i → i < w23.heap.size ∧ i ≠ w2.heap.size ∧ i ≠ w2.heap.size + 1) ∧
 (∀ (n24 : Option Nat) (F25 : Nat → Prop) (s26 : Sl) (w27 : World), X8 n24 F25 s26 w27 → ∀ i, F25 i → i < w27.heap.size ∧ i ≠ w2.heap.size ∧ i ≠ w2.heap.size + 1) ∧
 (∀ i, Rd5 i → i < w2.heap.size ∧ ¬ F6 i ∧ i ≠ w.heap.size ∧ i ≠ w0.heap.size ∧ True) ∧
 (∀ w28 : World, Hb w2.heap.size w2 w28 → Iter Tryz.prog (v3) w28 Rd5 xs4 ∧ ([.int .i64 a1_0, .int .i64 a1_1] : List Value) = [.int .i64 a1_0, .int .i64 a1_1] ∧ I7 0 F6 ⟨none, 0, 0⟩ w28) ∧
 (∀ (n29 : Nat) (F30 : Nat → Prop) (us31 : Nat → Value) (s32 : Sl) (x33 : Int) (w34 : World), xs4[n29]? = some [.int .i64 x33] → I7 n29 F30 s32 w34 →
 Below w34.heap.size w34 w34 ∧ ∀ w35 : World, Rec (w2.heap.size + 1) w34 w35 → I7 n29 F30 s32 w35 →
 ∀ w36 : World, w36 = w35.alloc (.cells #[.int .i64 x33] 3) →
 az 8 1 w36 ⟨s32.a, s32.n, s32.c⟩ 1 [.int .i64 x33] ∧ ∀ (s37 : Sl) (w38 : World), av 3 1 w36 ⟨s32.a, s32.n, s32.c⟩ 1 [.int .i64 x33] s37 w38 → w38.heap[w.heap.size]? = w36.heap[w.heap.size]? ∧ w38.heap[w0.heap.size]? = w36.heap[w0.heap.size]? ∧ w38.heap[w35.heap.size]? = w36.heap[w35.heap.size]? ∧
 ∀ w39 : World, w39 = w38.setRow w0.heap.size #[.slice s37.a s37.n s37.c] →
 ∃ F40 : Nat → Prop, (([.int .i64 a1_0, .int .i64 a1_1] : List Value) = [.int .i64 a1_0, .int .i64 a1_1] ∧ I7 (n29 + 1) F40 ⟨s37.a, s37.n, s37.c⟩ w39) ∧ Step (fun i => F30 i ∨ i ∈ ([w.heap.size, w0.heap.size] : List Nat)) (fun i => F40 i ∨ i ∈ ([w.heap.size, w0.heap.size] : List Nat)) w35 w39) ∧
 (∀ (F41 : Nat → Prop) (us42 : Nat → Value) (s43 : Sl) (w44 : World), I7 xs4.length F41 s43 w44 → w44.heap[w2.heap.size]? = some (.deferred (some [])) →
 Calls Tryz.prog fe #[.slice s43.a s43.n s43.c] w44 (fun e w45 => ∃ (s46 : Sl), e = .returned (.slice s46.a s46.n s46.c) ∧ w45.heap[w.heap.size]? = w44.heap[w.heap.size]? ∧ w45.heap[w0.heap.size]? = w44.heap[w0.heap.size]? ∧
 Calls Tryz.prog rq #[.slice s46.a s46.n s46.c] w45 (fun e w47 => ∃ (s48 : Sl), e = .returned (.slice s48.a s48.n s48.c) ∧ w47.heap[w.heap.size]? = w45.heap[w.heap.size]? ∧ w47.heap[w0.heap.size]? = w45.heap[w0.heap.size]? ∧
 w47.heap[w2.heap.size]? = some (.deferred (some [])) ∧ ∀ w49 : World, Rec w2.heap.size w47 w49 →
 R (.returned (.slice s48.a s48.n s48.c)) w49))) ∧
 True)
theorem ri.vc {a0 a1_0 a1_1 w} (h : ri.pre a0 a1_0 a1_1 w R) : Calls Tryz.prog jF #[.int .i64 a0, .agg #[.int .i64 a1_0, .int .i64 a1_1]] w R :=
 cq ⟨[], [], [(4, ⟨[], [(1, [.slice])], []⟩, [.sc (.int .i64)])]⟩ Tryz.func121 h
def pq.pre (a0 : Sl) (a1 : Int) (w : World) (R : Ending → World → Prop) : Prop :=
 ∃ I0 : Nat → Int → Int → Sl → World → Prop,
 (∃ n1, I0 n1 a1 (0) ⟨none, 0, 0⟩ w) ∧
 ∀ (n1 : Nat) (us2 : Nat → Value) (x3 x4 : Int) (s5 : Sl) (w6 : World), I0 n1 x3 x4 s5 w6 →
 Br (decide (x3 > 0))
 (Br (decide (x4 ≥ ((a0.n : Nat) : Int)))
 (R (.returned (.tuple #[.slice none 0 0, (3:Int)])) w6)
 (cn a0.a x4 a0.n ∧ ∃ (x8 : Int), ld w6 (ae a0.a ((x4 : Int).toNat * 1)) = some (.int .u8 x8) ∧
 Calls Tryz.prog m8 #[(IntKind.wrap .i64 x8)] w6 (fun e w9 => ∃ (b10 : Bool), e = .returned (.bool b10) ∧
 Br (!b10)
 (R (.returned (.tuple #[.slice none 0 0, (2:Int)])) w9)
 (Br (decide ((((s5.n : Nat) : Int) : Int) > 0))
 (cn s5.a (if 0 > (IntKind.wrap .i64 (((s5.n : Nat) : Int) - 1)) then 0 else (IntKind.wrap .i64 (((s5.n : Nat) : Int) - 1))) s5.n ∧ aV (ik (ae s5.a (((if 0 > (IntKind.wrap .i64 (((s5.n : Nat) : Int) - 1)) then 0 else (IntKind.wrap .i64 (((s5.n : Nat) : Int) - 1))) : Int).toNat * 2))) (∃ (x11 : Int), ld w9 (ae (ae s5.a (((if 0 > (IntKind.wrap .i64 (((s5.n : Nat) : Int) - 1)) then 0 else (IntKind.wrap .i64 (((s5.n : Nat) : Int) - 1))) : Int).toNat * 2)) 1) = some (.int .i64 x11) ∧
 Br (x11 == (IntKind.wrap .i64 x8))
 (R (.returned (.tuple #[.slice none 0 0, (2:Int)])) w9)
 ((0 : Int) ≤ (IntKind.wrap .i64 (x4 + 1)) ∧ (IntKind.wrap .i64 (x4 + 1)) ≤ ((a0.n : Nat) : Int) ∧ Calls Tryz.prog fg #[.slice (ai a0.a (((IntKind.wrap .i64 (x4 + 1)) : Int).toNat) (a0.c) 1) (a0.n - ((IntKind.wrap .i64 (x4 + 1)) : Int).toNat) (a0.c - ((IntKind.wrap .i64 (x4 + 1)) : Int).toNat)] w9 (fun e w12 => ∃ (x13 x14 x15 : Int), e = .returned (.tuple #[x13, x14, x15]) ∧
 Br (x15 != 0)
 (R (.returned (.tuple #[.slice none 0 0, x15])) w12)
 (Br (x13 == 0)
 (R (.returned (.tuple #[.slice none 0 0, (2:Int)])) w12)
 (Br (decide (x13 > x3))
 (R (.returned (.tuple #[.slice none 0 0, (2:Int)])) w12)
 (∀ w16 : World, w16 = w12.alloc (.cells #[x13, (IntKind.wrap .i64 x8)] 166) →
 az 16 2 w16 s5 1 [x13, (IntKind.wrap .i64 x8)] ∧ ∀ (s17 : Sl) (w18 : World), av 166 2 w16 s5 1 [x13, (IntKind.wrap .i64 x8)] s17 w18 → Kp w12 w16 w18 ∧
 ∃ n7, n7 < n1 ∧ I0 n7 ((IntKind.wrap .i64 (x3 - x13))) ((IntKind.wrap .i64 ((IntKind.wrap .i64 (x4 + 1)) + x14))) s17 w18)))))))
 ((0 : Int) ≤ (IntKind.wrap .i64 (x4 + 1)) ∧ (IntKind.wrap .i64 (x4 + 1)) ≤ ((a0.n : Nat) : Int) ∧ Calls Tryz.prog fg #[.slice (ai a0.a (((IntKind.wrap .i64 (x4 + 1)) : Int).toNat) (a0.c) 1) (a0.n - ((IntKind.wrap .i64 (x4 + 1)) : Int).toNat) (a0.c - ((IntKind.wrap .i64 (x4 + 1)) : Int).toNat)] w9 (fun e w19 => ∃ (x20 x21 x22 : Int), e = .returned (.tuple #[x20, x21, x22]) ∧
 Br (x22 != 0)
 (R (.returned (.tuple #[.slice none 0 0, x22])) w19)
 (Br (x20 == 0)
 (R (.returned (.tuple #[.slice none 0 0, (2:Int)])) w19)
 (Br (decide (x20 > x3))
 (R (.returned (.tuple #[.slice none 0 0, (2:Int)])) w19)
 (∀ w23 : World, w23 = w19.alloc (.cells #[x20, (IntKind.wrap .i64 x8)] 166) →
 az 16 2 w23 s5 1 [x20, (IntKind.wrap .i64 x8)] ∧ ∀ (s24 : Sl) (w25 : World), av 166 2 w23 s5 1 [x20, (IntKind.wrap .i64 x8)] s24 w25 → Kp w19 w23 w25 ∧
 ∃ n7, n7 < n1 ∧ I0 n7 ((IntKind.wrap .i64 (x3 - x20))) ((IntKind.wrap .i64 ((IntKind.wrap .i64 (x4 + 1)) + x21))) s24 w25)))))))))
 (Br (decide (x4 < ((a0.n : Nat) : Int)))
 (R (.returned (.tuple #[.slice none 0 0, (2:Int)])) w6)
 (R (.returned (.tuple #[s5, (0:Int)])) w6))
theorem pq.vc {a0 a1 w} (h : pq.pre a0 a1 w R) : Calls Tryz.prog lr #[a0, a1] w R :=
 cq ⟨[(3, ⟨[(1, .int .i64), (7, .int .i64), (6, .slice)], [], []⟩)], [], []⟩ Tryz.func126 h
def nj.pre (a0 a1_0 a1_1 : Int) (w : World) (R : Ending → World → Prop) : Prop :=
 ∀ w0 : World, w0 = w.alloc (.cells #[a1_0, a1_1] 89) →
 ∃ I1 : Nat → Int → Sl → World → Prop,
 (∃ n2, a6 [a1_0, a1_1] ∧ I1 n2 (0) ⟨none, 0, 0⟩ w0) ∧
 ∀ (n2 : Nat) (us3 : Nat → Value) (x4 : Int) (s5 : Sl) (w6 : World), I1 n2 x4 s5 w6 →
 Br (decide (x4 < 8192))
 (Calls Tryz.prog kY #[.agg #[a1_0, a1_1], x4] w6 (fun e w8 => ∃ (x9 x10 x11 : Int) (b12 : Bool), e = .returned (.tuple #[.agg #[x9, x10, x11], .bool b12]) ∧ Kp w w6 w8 ∧
 ∀ w13 : World, w13 = w8.alloc (.cells #[(0:Int), (0:Int), (0:Int)] 23) →
 ∀ w14 : World, w14 = w13.setRow w8 #[x9, x10, x11] →
 Calls Tryz.prog j0 #[a0, .agg #[x9, x10, x11]] w14 (fun e w15 => ∃ (x16 : Int), e = .returned x16 ∧ Kp w w14 w15 ∧ Kp w8 w14 w15 ∧
 ∀ w17 : World, w17 = w15.alloc (.cells #[x16] 3) →
 az 8 1 w17 s5 1 [x16] ∧ ∀ (s18 : Sl) (w19 : World), av 3 1 w17 s5 1 [x16] s18 w19 → Kp w w17 w19 ∧ Kp w8 w17 w19 ∧ Kp w15 w17 w19 ∧
 ∃ n7, n7 < n2 ∧ a6 [a1_0, a1_1] ∧ I1 n7 ((IntKind.wrap .i64 (x4 + 1))) s18 w19)))
 (Calls Tryz.prog o5 #[s5] w6 (fun e w20 => ∃ (s21 : Sl), e = .returned s21 ∧ Kp w w6 w20 ∧
 R (.returned s21) w20))
theorem nj.vc {a0 a1_0 a1_1 w} (h : nj.pre a0 a1_0 a1_1 w R) : Calls Tryz.prog j6 #[a0, .agg #[a1_0, a1_1]] w R :=
 cq ⟨[(3, ⟨[(6, .int .i64), (5, .slice)], [], []⟩)], [], []⟩ Tryz.func127 h
def uf.pre (a0 a1 : Int) (w : World) (R : Ending → World → Prop) : Prop :=
 Br (decide (a1 < 1))
 (R (.returned (0:Int)) w)
 (aV (FV a1) (aV (FV a1) (Br (decide (((Int.tmod a0 a1) : Int) < 0))
 (R (.returned ((IntKind.wrap .i64 ((IntKind.wrap .i64 (Int.tdiv a0 a1)) - 1)))) w)
 (R (.returned ((IntKind.wrap .i64 (Int.tdiv a0 a1)))) w))))
theorem uf.vc {a0 a1 w} (h : uf.pre a0 a1 w R) : Calls Tryz.prog fH #[a0, a1] w R :=
 cq ⟨[], [], []⟩ Tryz.func128 h
def fj.pre (a0_0 a0_1 a1_0 a1_1 a1_2 : Int) (w : World) (R : Ending → World → Prop) : Prop :=
 ∀ w0 : World, w0 = w.alloc (.cells #[a0_0, a0_1] 181) →
 ∀ w1 : World, w1 = w0.alloc (.cells #[a1_0, a1_1, a1_2] 23) →
 Calls Tryz.prog iu #[.agg #[a1_0, a1_1, a1_2]] w1 (fun e w2 => ∃ (x3 : Int) (b4 : Bool), e = .returned (.tuple #[x3, .bool b4]) ∧ Kp w w1 w2 ∧ Kp w0 w1 w2 ∧
 Br b4
 (Calls Tryz.prog dK #[.agg #[a1_0, a1_1, a1_2]] w2.drew (fun e w5 => ∃ (x6 x7 : Int), e = .returned (.agg #[x6, x7]) ∧ Kp w w2.drew w5 ∧ Kp w0 w2.drew w5 ∧
 aj w5 (some ⟨w, 0, none⟩) 0 [a0_0, a0_1] ∧ R (.returned (.tuple #[x3, .bool ((x6 == a0_0) && (x7 == a0_1))])) w5))
 (R (.returned (.tuple #[x3, .bool false])) w2.drew))
theorem fj.vc {a0_0 a0_1 a1_0 a1_1 a1_2 w} (h : fj.pre a0_0 a0_1 a1_0 a1_1 a1_2 w R) : Calls Tryz.prog cA #[.agg #[a0_0, a0_1], .agg #[a1_0, a1_1, a1_2]] w R :=
 cq ⟨[], [], []⟩ Tryz.func129 h
def xU.pre (a0 : Sl) (a1 : Int) (w : World) (R : Ending → World → Prop) : Prop :=
 ∃ I0 : Nat → Int → Int → World → Prop,
 (∃ n1, I0 n1 (0) a1 w) ∧
 ∀ (n1 : Nat) (us2 : Nat → Value) (x3 x4 : Int) (w5 : World), I0 n1 x3 x4 w5 →
 Br (decide (x3 < ((a0.n : Nat) : Int)))
 (cn a0.a x3 a0.n ∧ ∃ (x7 x8 : Int), aj w5 (ae a0.a ((x3 : Int).toNat * 2)) 0 [x7, x8] ∧
 ∀ w9 : World, w9 = w5.alloc (.cells #[(0:Int), (0:Int)] 166) →
 ∀ w10 : World, w10 = w9.setRow w5 #[x7, x8] →
 Br (decide (x4 ≥ 0))
 (Br (decide (x4 < x7))
 (R (.returned x8) w10)
 (∃ n6, n6 < n1 ∧ I0 n6 ((IntKind.wrap .i64 (x3 + 1))) ((IntKind.wrap .i64 (x4 - x7))) w10))
 (∃ n6, n6 < n1 ∧ I0 n6 ((IntKind.wrap .i64 (x3 + 1))) ((IntKind.wrap .i64 (x4 - x7))) w10))
 (R (.returned (.int .i64 (-1))) w5)
theorem xU.vc {a0 a1 w} (h : xU.pre a0 a1 w R) : Calls Tryz.prog rp #[a0, a1] w R :=
 cq ⟨[(2, ⟨[(9, .int .i64), (1, .int .i64)], [], []⟩)], [], []⟩ Tryz.func130 h
def rD.pre (a0 : Int) (w : World) (R : Ending → World → Prop) : Prop :=
 Br (decide (a0 ≥ 8))
 (R (.returned (.bool (decide (a0 < 16)))) w)
 (R (.returned (.bool false)) w)
theorem rD.vc {a0 w} (h : rD.pre a0 w R) : Calls Tryz.prog jH #[a0] w R :=
 cq ⟨[], [], []⟩ Tryz.func134 h
def fP.pre (a0 : Addr) (w : World) (R : Ending → World → Prop) : Prop :=
 ∃ (s0 : Sl), ld w (ae (some a0) 3) = some (.slice s0.a s0.n s0.c) ∧
 ∃ I1 : Nat → Int → Sl → World → Prop,
 (∃ n2, I1 n2 (0) ⟨none, 0, 0⟩ w) ∧
 ∀ (n2 : Nat) (us3 : Nat → Value) (x4 : Int) (s5 : Sl) (w6 : World), I1 n2 x4 s5 w6 →
 Br (decide (x4 < ((s0.n : Nat) : Int)))
 (cn s0.a x4 s0.n ∧ ∃ (p8 : Option Addr), ld w6 (ae s0.a ((x4 : Int).toNat * 1)) = some (.pointer p8) ∧
 aV (ik p8) (aV (ik p8) (∃ (p9 : Option Addr), ld w6 (ae p8 0) = some (.pointer p9) ∧
 aV (ik p9) (aV (ik p9) (∃ (x10 x11 : Int), aj w6 (ae p9 0) 0 [x10, x11] ∧
 Calls Tryz.prog bM #[.agg #[x10, x11]] w6 (fun e w12 => ∃ (x13 x14 : Int), e = .returned (.agg #[x13, x14]) ∧
 ∀ w15 : World, w15 = w12.alloc (.cells #[x13, x14] 89) →
 az 16 2 w15 s5 1 [x13, x14] ∧ ∀ (s16 : Sl) (w17 : World), av 89 2 w15 s5 1 [x13, x14] s16 w17 → Kp w12 w15 w17 ∧
 ∃ n7, n7 < n2 ∧ I1 n7 ((IntKind.wrap .i64 (x4 + 1))) s16 w17))))))
 (R (.returned s5) w6)
theorem fP.vc {a0 w} (h : fP.pre a0 w R) : Calls Tryz.prog cP #[.pointer (some a0)] w R :=
 cq ⟨[(3, ⟨[(11, .int .i64), (3, .slice)], [], []⟩)], [], []⟩ Tryz.func135 h
def jz.pre (a0_0 a0_1 : Int) (w : World) (R : Ending → World → Prop) : Prop :=
 ∀ w0 : World, w0 = w.alloc (.cells #[a0_0, a0_1] 89) →
 ∀ w1 : World, w1 = w0.alloc (.cells #[(0:Int), (0:Int), (0:Int), (0:Int), (0:Int), (0:Int), (0:Int), (0:Int), (0:Int), (0:Int)] 202) →
 (true = true ∧ Wr w1 (some ⟨w0, 0, none⟩) 10) ∧ bD (some ⟨w0, 0, none⟩) ≠ some w.heap.size ∧ (∀ w2 : World, w2 = aA w1 (some ⟨w0, 0, none⟩) [a0_0, a0_1, (IntKind.wrap .i64 (a0_0 - 1)), a0_1, (IntKind.wrap .i64 (a0_0 + 1)), a0_1, a0_0, (IntKind.wrap .i64 (a0_1 - 1)), a0_0, (IntKind.wrap .i64 (a0_1 + 1))] →
 ∃ (x3 x4 x5 x6 x7 x8 x9 x10 x11 x12 : Int), aj w2 (some ⟨w0, 0, none⟩) 0 [x3, x4, x5, x6, x7, x8, x9, x10, x11, x12] ∧
 R (.returned (.agg #[x3, x4, x5, x6, x7, x8, x9, x10, x11, x12])) w2)
theorem jz.vc {a0_0 a0_1 w} (h : jz.pre a0_0 a0_1 w R) : Calls Tryz.prog jW #[.agg #[a0_0, a0_1]] w R :=
 cq ⟨[], [], []⟩ Tryz.func136 h
def dX.pre (a0 : Sl) (a1_0 a1_1 : Int) (w : World) (R : Ending → World → Prop) : Prop :=
 ∀ w0 : World, w0 = w.alloc (.cells #[a1_0, a1_1] 89) →
 Calls Tryz.prog eu #[a0, .agg #[a1_0, a1_1]] w0 (fun e w1 => ∃ (x2 : Int), e = .returned x2 ∧ Kp w w0 w1 ∧
 R (.returned (.bool (decide (x2 ≥ 0)))) w1)
theorem dX.vc {a0 a1_0 a1_1 w} (h : dX.pre a0 a1_0 a1_1 w R) : Calls Tryz.prog c5 #[a0, .agg #[a1_0, a1_1]] w R :=
 cq ⟨[], [], []⟩ Tryz.func137 h
def nk.pre (a0 : Int) (w : World) (R : Ending → World → Prop) : Prop :=
 Calls Tryz.prog jH #[a0] w (fun e w0 => ∃ (b1 : Bool), e = .returned (.bool b1) ∧
 Br (!b1)
 (R (.returned (.int .i64 (-1))) w0)
 (R (.returned ((IntKind.wrap .i64 (a0 - 8)))) w0))
theorem nk.vc {a0 w} (h : nk.pre a0 w R) : Calls Tryz.prog oH #[a0] w R :=
 cq ⟨[], [], []⟩ Tryz.func140 h
def oc.pre (a0 a1 : Int) (w : World) (R : Ending → World → Prop) : Prop :=
 aV (FV a1) (Br (decide (((IntKind.wrap .i64 ((IntKind.wrap .i64 (Int.tdiv a0 a1)) * a1)) : Int) > a0))
 (R (.returned ((IntKind.wrap .i64 ((IntKind.wrap .i64 (Int.tdiv a0 a1)) - 1)))) w)
 (R (.returned ((IntKind.wrap .i64 (Int.tdiv a0 a1)))) w))
theorem oc.vc {a0 a1 w} (h : oc.pre a0 a1 w R) : Calls Tryz.prog mL #[a0, a1] w R :=
 cq ⟨[], [], []⟩ Tryz.func144 h
def oo.pre (a0 : Int) (w : World) (R : Ending → World → Prop) : Prop :=
 Br (decide (a0 ≥ 0))
 (Br (decide (a0 ≤ 15))
 (Br (a0 != 6)
 (R (.returned (.bool (a0 != 7))) w)
 (R (.returned (.bool false)) w))
 (R (.returned (.bool false)) w))
 (R (.returned (.bool false)) w)
theorem oo.vc {a0 w} (h : oo.pre a0 w R) : Calls Tryz.prog m8 #[a0] w R :=
 cq ⟨[], [], []⟩ Tryz.func146 h
def ug.pre (a0 a1 : Int) (w : World) (R : Ending → World → Prop) : Prop :=
 Br (decide (a1 < 1))
 (R (.returned (0:Int)) w)
 (aV (FV a1) (Br (decide (((Int.tmod a0 a1) : Int) < 0))
 (R (.returned ((IntKind.wrap .i64 ((Int.tmod a0 a1) + a1)))) w)
 (R (.returned (.int .i64 (Int.tmod a0 a1))) w)))
theorem ug.vc {a0 a1 w} (h : ug.pre a0 a1 w R) : Calls Tryz.prog fI #[a0, a1] w R :=
 cq ⟨[], [], []⟩ Tryz.func148 h
def pr.pre (a0 : Int) (w : World) (R : Ending → World → Prop) : Prop :=
 Br (decide (a0 < 0))
 (R (.returned (.string (ByteArray.mk #[]))) w)
 (Br (decide (a0 ≥ 16))
 (R (.returned (.string (ByteArray.mk #[]))) w)
 (Calls Tryz.prog j8 #[] w (fun e w0 => ∃ (t1 t2 t3 t4 t5 t6 t7 t8 t9 t10 t11 t12 t13 t14 t15 t16 : ByteArray), e = .returned (.agg #[.string t1, .string t2, .string t3, .string t4, .string t5, .string t6, .string t7, .string t8, .string t9, .string t10, .string t11, .string t12, .string t13, .string t14, .string t15, .string t16]) ∧
 ((0 : Int) ≤ a0 ∧ a0 < ((16 : Nat) : Int)) ∧ ∃ (t17 : ByteArray), ([.string t1, .string t2, .string t3, .string t4, .string t5, .string t6, .string t7, .string t8, .string t9, .string t10, .string t11, .string t12, .string t13, .string t14, .string t15, .string t16] : List Value)[(a0 : Int).toNat * 1]? = some (.string t17) ∧
 R (.returned (.string t17)) w0)))
theorem pr.vc {a0 w} (h : pr.pre a0 w R) : Calls Tryz.prog lu #[a0] w R :=
 cq ⟨[], [], []⟩ Tryz.func149 h
def uz.pre (a0 : Sl) (a1 a2 : Int) (w : World) (R : Ending → World → Prop) : Prop :=
 Br (decide (a1 < 0))
 (Calls Tryz.prog aY #[a0] w (fun e w0 => ∃ (s1 : Sl), e = .returned s1 ∧
 R (.returned s1) w0))
 (Calls Tryz.prog ja #[a0] w (fun e w2 => ∃ (x3 : Int), e = .returned x3 ∧
 Br (decide (a1 ≥ x3))
 (Calls Tryz.prog aY #[a0] w2 (fun e w4 => ∃ (s5 : Sl), e = .returned s5 ∧
 R (.returned s5) w4))
 (Calls Tryz.prog ng #[a0, a1, (IntKind.wrap .i64 (a1 + 1)), a2] w2 (fun e w6 => ∃ (s7 : Sl), e = .returned s7 ∧
 R (.returned s7) w6))))
theorem uz.vc {a0 a1 a2 w} (h : uz.pre a0 a1 a2 w R) : Calls Tryz.prog pn #[a0, a1, a2] w R :=
 cq ⟨[], [], []⟩ Tryz.func150 h
def fk.pre (a0 : Addr) (w : World) (R : Ending → World → Prop) : Prop :=
 ∃ (s0 : Sl), ld w (ae (some a0) 2) = some (.slice s0.a s0.n s0.c) ∧
 Calls Tryz.prog lx #[s0] w (fun e w1 => ∃ (s2 : Sl) (x3 : Int), e = .returned (.tuple #[s2, x3]) ∧
 R (.returned s2) w1)
theorem fk.vc {a0 w} (h : fk.pre a0 w R) : Calls Tryz.prog dZ #[.pointer (some a0)] w R :=
 cq ⟨[], [], []⟩ Tryz.func152 h
def uA.pre (a0 : Int) (w : World) (R : Ending → World → Prop) : Prop :=
 ∀ w0 : World, w0 = w.alloc (.map #[] 0) →
 ∀ w1 : World, w1 = w0.alloc (.cells #[.int .i64 (if 1048576 < (if 0 > a0 then 0 else a0) then 1048576 else (if 0 > a0 then 0 else a0)), (0:Int), (0:Int), .map (some w.heap.size), .slice none 0 0] 262) →
 R (.returned (.pointer (some ⟨w0, 0, none⟩))) w1
theorem uA.vc {a0 w} (h : uA.pre a0 w R) : Calls Tryz.prog po #[a0] w R :=
 cq ⟨[], [], []⟩ Tryz.func157 h
def kc.pre (a0 : Addr) (a1 : Int) (w : World) (R : Ending → World → Prop) : Prop :=
 Calls Tryz.prog gT #[.pointer (some a0)] w (fun e w0 => ∃ (m1 : Option Nat), e = .returned (.map m1) ∧
 ∃ (G2 : Value → Prop) (kvs3 : List (Value × Value)), dD Tryz.prog 3 G2 ∧ aJ G2 w0 m1 kvs3 ∧ G2 a1 ∧ ∃ (s4 : Sl), ∃ b5 : Bool, vP kvs3 a1 (.slice none 0 0) s4 b5 ∧
 Calls Tryz.prog cy #[s4] w0 (fun e w6 => ∃ (s7 : Sl), e = .returned s7 ∧
 R (.returned (.tuple #[s7, .bool b5])) w6))
theorem kc.vc {a0 a1 w} (h : kc.pre a0 a1 w R) : Calls Tryz.prog mb #[.pointer (some a0), a1] w R :=
 cq ⟨[], [], []⟩ Tryz.func158 h
def pw.pre (a0 : Sl) (w : World) (R : Ending → World → Prop) : Prop :=
 Calls Tryz.prog oV #[a0] w (fun e w0 => ∃ (s1 : Sl) (x2 : Int), e = .returned (.tuple #[s1, x2]) ∧
 Br (x2 != 0)
 (R (.returned (.tuple #[(0:Int), .slice none 0 0, x2])) w0)
 (Br (decide ((((s1.n : Nat) : Int) : Int) < 7))
 (R (.returned (.tuple #[(0:Int), .slice none 0 0, (3:Int)])) w0)
 ((0 : Int) ≤ 4 ∧ 4 ≤ ((s1.c : Nat) : Int) ∧ (0 : Int) ≤ 7 ∧ 7 ≤ ((s1.c : Nat) : Int) ∧ (0 : Int) ≤ 4 ∧ (4 : Int) ≤ 7 ∧ (0 : Int) ≤ 7 ∧ 7 ≤ ((s1.n : Nat) : Int) ∧ Calls Tryz.prog 205 #[.slice (ai s1.a (0) (s1.c) 1) ((4 : Int).toNat - 0) (s1.c - 0)] w0.drew (fun e w3 => ∃ (x4 : Int), e = .returned x4 ∧
 Calls Tryz.prog 205 #[.slice (ai s1.a ((4 : Int).toNat) (s1.c) 1) ((7 : Int).toNat - (4 : Int).toNat) (s1.c - (4 : Int).toNat)] w3 (fun e w5 => ∃ (x6 : Int), e = .returned x6 ∧
 Br (decide (x4 < 1))
 (R (.returned (.tuple #[(0:Int), .slice none 0 0, (2:Int)])) w5)
 (Br (decide (x4 > 1073741824))
 (R (.returned (.tuple #[(0:Int), .slice none 0 0, (2:Int)])) w5)
 (Br (decide (x6 > 65536))
 (R (.returned (.tuple #[(0:Int), .slice none 0 0, (2:Int)])) w5)
 (Br (x6 != (((s1.n - (7 : Int).toNat) : Nat) : Int))
 (R (.returned (.tuple #[(0:Int), .slice none 0 0, (2:Int)])) w5)
 (R (.returned (.tuple #[x4, .slice (ai s1.a ((7 : Int).toNat) (s1.c) 1) (s1.n - (7 : Int).toNat) (s1.c - (7 : Int).toNat), (0:Int)])) w5)))))))))
theorem pw.vc {a0 w} (h : pw.pre a0 w R) : Calls Tryz.prog qp #[a0] w R :=
 cq ⟨[], [], []⟩ Tryz.func159 h
def jJ.pre (a0 : Sl) (w : World) (R : Ending → World → Prop) : Prop :=
 (0 : Int) ≤ (if 3 < ((a0.n : Nat) : Int) then 3 else ((a0.n : Nat) : Int)) ∧ (if 3 < ((a0.n : Nat) : Int) then 3 else ((a0.n : Nat) : Int)) ≤ ((a0.c : Nat) : Int) ∧ ∃ I0 : Nat → Int → Int → World → Prop,
 (∃ n1, I0 n1 (0) (0) w) ∧
 ∀ (n1 : Nat) (us2 : Nat → Value) (x3 x4 : Int) (w5 : World), I0 n1 x3 x4 w5 →
 Br (decide (x3 < (((((if 3 < ((a0.n : Nat) : Int) then 3 else ((a0.n : Nat) : Int)) : Int).toNat - 0) : Nat) : Int)))
 (cn (ai a0.a (0) (a0.c) 1) x3 (((if 3 < ((a0.n : Nat) : Int) then 3 else ((a0.n : Nat) : Int)) : Int).toNat - 0) ∧ ∃ (x7 : Int), ld w5 (ae (ai a0.a (0) (a0.c) 1) ((x3 : Int).toNat * 1)) = some (.int .u8 x7) ∧
 aV (Hu (IntKind.wrap .i64 (7 * x3))) (Br (decide (x7 ≥ 128))
 (∃ n6, n6 < n1 ∧ I0 n6 ((IntKind.wrap .i64 (x3 + 1))) ((yD .i64 x4 (IntKind.wrap .i64 ((IntKind.wrap .i64 (gk .u8 x7 128)) * 2 ^ (min ((IntKind.wrap .i64 (7 * x3)) : Int).toNat 64))))) w5)
 (Br (x7 == 0)
 (Br (decide (x3 > 0))
 (R (.returned (.tuple #[(0:Int), (0:Int), (2:Int)])) w5)
 (Br (decide (((yD .i64 x4 (IntKind.wrap .i64 ((IntKind.wrap .i64 (gk .u8 x7 128)) * 2 ^ (min ((IntKind.wrap .i64 (7 * x3)) : Int).toNat 64)))) : Int) > 1048576))
 (R (.returned (.tuple #[(0:Int), (0:Int), (2:Int)])) w5)
 (R (.returned (.tuple #[.int .i64 (yD .i64 x4 (IntKind.wrap .i64 ((IntKind.wrap .i64 (gk .u8 x7 128)) * 2 ^ (min ((IntKind.wrap .i64 (7 * x3)) : Int).toNat 64)))), (IntKind.wrap .i64 (x3 + 1)), (0:Int)])) w5)))
 (Br (decide (((yD .i64 x4 (IntKind.wrap .i64 ((IntKind.wrap .i64 (gk .u8 x7 128)) * 2 ^ (min ((IntKind.wrap .i64 (7 * x3)) : Int).toNat 64)))) : Int) > 1048576))
 (R (.returned (.tuple #[(0:Int), (0:Int), (2:Int)])) w5)
 (R (.returned (.tuple #[.int .i64 (yD .i64 x4 (IntKind.wrap .i64 ((IntKind.wrap .i64 (gk .u8 x7 128)) * 2 ^ (min ((IntKind.wrap .i64 (7 * x3)) : Int).toNat 64)))), (IntKind.wrap .i64 (x3 + 1)), (0:Int)])) w5)))))
 (Br (decide ((((a0.n : Nat) : Int) : Int) < 3))
 (R (.returned (.tuple #[(0:Int), (0:Int), (3:Int)])) w5)
 (R (.returned (.tuple #[(0:Int), (0:Int), (2:Int)])) w5))
theorem jJ.vc {a0 w} (h : jJ.pre a0 w R) : Calls Tryz.prog j7 #[a0] w R :=
 cq ⟨[(3, ⟨[(14, .int .i64), (5, .int .i64)], [], []⟩)], [], []⟩ Tryz.func160 h
def uB.pre (a0 : Sl) (a1 : Int) (w : World) (R : Ending → World → Prop) : Prop :=
 ∃ I0 : Nat → Int → Int → World → Prop,
 (∃ n1, I0 n1 (0) a1 w) ∧
 ∀ (n1 : Nat) (us2 : Nat → Value) (x3 x4 : Int) (w5 : World), I0 n1 x3 x4 w5 →
 Br (decide (x3 < ((a0.n : Nat) : Int)))
 (cn a0.a x3 a0.n ∧ ∃ (x7 x8 : Int), aj w5 (ae a0.a ((x3 : Int).toNat * 2)) 0 [x7, x8] ∧
 ∀ w9 : World, w9 = w5.alloc (.cells #[(0:Int), (0:Int)] 166) →
 ∀ w10 : World, w10 = w9.setRow w5 #[x7, x8] →
 Br (decide (x7 < 1))
 (R (.returned (.bool false)) w10.drew)
 (Br (decide (x7 > x4))
 (R (.returned (.bool false)) w10.drew)
 (Calls Tryz.prog dB #[x8] w10.drew (fun e w11 => ∃ (b12 : Bool), e = .returned (.bool b12) ∧ Kp w5 w10.drew w11 ∧
 aj w11 (some ⟨w5, 0, none⟩) 0 [x7] ∧ aj w11 (some ⟨w5, 0, none⟩) 0 [x7] ∧ Br (!b12)
 (R (.returned (.bool false)) w11)
 (Br (decide (x3 > 0))
 (cn a0.a (IntKind.wrap .i64 (x3 - 1)) a0.n ∧ aV (ik (ae a0.a (((IntKind.wrap .i64 (x3 - 1)) : Int).toNat * 2))) (∃ (x13 : Int), ld w11 (ae (ae a0.a (((IntKind.wrap .i64 (x3 - 1)) : Int).toNat * 2)) 1) = some (.int .i64 x13) ∧
 Br (x13 == x8)
 (R (.returned (.bool false)) w11)
 (∃ n6, n6 < n1 ∧ I0 n6 ((IntKind.wrap .i64 (x3 + 1))) ((IntKind.wrap .i64 (x4 - x7))) w11)))
 (∃ n6, n6 < n1 ∧ I0 n6 ((IntKind.wrap .i64 (x3 + 1))) ((IntKind.wrap .i64 (x4 - x7))) w11))))))
 (Br (decide (a1 > 0))
 (R (.returned (.bool (x4 == 0))) w5)
 (R (.returned (.bool false)) w5))
theorem uB.vc {a0 a1 w} (h : uB.pre a0 a1 w R) : Calls Tryz.prog lv #[a0, a1] w R :=
 cq ⟨[(3, ⟨[(11, .int .i64), (5, .int .i64)], [], []⟩)], [], []⟩ Tryz.func161 h
def fQ.pre (a0 : Sl) (w : World) (R : Ending → World → Prop) : Prop :=
 Br (a0.a).isNone
 (R (.returned (.slice none 0 0)) w)
 (∀ w0 : World, w0 = w.alloc (.cells #[] 166) →
 ∃ l1 : List Value, Rd w0 a0.a l1 ∧ az 16 2 w0 ⟨(some ⟨w, 0, none⟩), 0, 0⟩ a0.n l1 ∧ ∀ (s2 : Sl) (w3 : World), av 166 2 w0 ⟨(some ⟨w, 0, none⟩), 0, 0⟩ a0.n l1 s2 w3 → Kp w w0 w3 ∧
 R (.returned s2) w3)
theorem fQ.vc {a0 w} (h : fQ.pre a0 w R) : Calls Tryz.prog aY #[a0] w R :=
 cq ⟨[], [], []⟩ Tryz.func162 h
def rE.pre (a0 a1_0 a1_1 : Int) (w : World) (R : Ending → World → Prop) : Prop :=
 ∀ w0 : World, w0 = w.alloc (.cells #[a0] 3) →
 ∀ w1 : World, w1 = w0.alloc (.cells #[a1_0, a1_1] 89) →
 R (.returned (.func (.func 206) #[] #[.pointer (some ⟨w0, 0, none⟩), .pointer (some ⟨w, 0, none⟩)])) w1
theorem rE.vc {a0 a1_0 a1_1 w} (h : rE.pre a0 a1_0 a1_1 w R) : Calls Tryz.prog na #[a0, .agg #[a1_0, a1_1]] w R :=
 cq ⟨[], [], []⟩ Tryz.func163 h
def xV.pre (a0 : Sl) (w : World) (R : Ending → World → Prop) : Prop :=
 ∃ I0 : Nat → Int → Sl → World → Prop,
 (∃ n1, I0 n1 (0) ⟨none, 0, 0⟩ w) ∧
 ∀ (n1 : Nat) (us2 : Nat → Value) (x3 : Int) (s4 : Sl) (w5 : World), I0 n1 x3 s4 w5 →
 Br (decide (x3 < ((a0.n : Nat) : Int)))
 (cn a0.a x3 a0.n ∧ ∃ (x7 : Int), ld w5 (ae a0.a ((x3 : Int).toNat * 1)) = some (.int .i64 x7) ∧
 Calls Tryz.prog dC #[s4, .agg #[(1:Int), x7]] w5 (fun e w8 => ∃ (s9 : Sl), e = .returned s9 ∧
 ∃ n6, n6 < n1 ∧ I0 n6 ((IntKind.wrap .i64 (x3 + 1))) s9 w8))
 (R (.returned s4) w5)
theorem xV.vc {a0 w} (h : xV.pre a0 w R) : Calls Tryz.prog rq #[a0] w R :=
 cq ⟨[(3, ⟨[(8, .int .i64), (3, .slice)], [], []⟩)], [], []⟩ Tryz.func164 h
def gQ.pre (a0 : Sl) (w : World) (R : Ending → World → Prop) : Prop :=
 (0 : Int) ≤ ((a0.n : Nat) : Int) ∧ ((a0.n : Nat) : Int) ≤ ((a0.c : Nat) : Int) ∧ (0 : Int) ≤ ((a0.n : Nat) : Int) ∧ (((a0.n : Nat) : Int) : Int) ≤ ((a0.n : Nat) : Int) ∧ R (.returned (.slice (ai a0.a (0) ((((a0.n : Nat) : Int) : Int).toNat) 1) ((((a0.n : Nat) : Int) : Int).toNat - 0) ((((a0.n : Nat) : Int) : Int).toNat - 0))) w
theorem gQ.vc {a0 w} (h : gQ.pre a0 w R) : Calls Tryz.prog fe #[a0] w R :=
 cq ⟨[], [], []⟩ Tryz.func165 h
def lC.pre (a0 : Sl) (w : World) (R : Ending → World → Prop) : Prop :=
 ∃ I0 : Nat → Int → Int → Int → World → Prop,
 (∃ n1, I0 n1 (0) (0) (1) w) ∧
 ∀ (n1 : Nat) (us2 : Nat → Value) (x3 x4 x5 : Int) (w6 : World), I0 n1 x3 x4 x5 w6 →
 Br (decide (x3 < 3))
 (Br (decide (x3 ≥ ((a0.n : Nat) : Int)))
 (R (.returned (.tuple #[(0:Int), (0:Int), (3:Int)])) w6)
 (cn a0.a x3 a0.n ∧ ∃ (x8 : Int), ld w6 (ae a0.a ((x3 : Int).toNat * 1)) = some (.int .u8 x8) ∧
 Br (decide (((IntKind.wrap .i64 x8) : Int) ≥ 128))
 (∃ n7, n7 < n1 ∧ I0 n7 ((IntKind.wrap .i64 (x3 + 1))) ((IntKind.wrap .i64 (x4 + (IntKind.wrap .i64 ((Int.tmod (IntKind.wrap .i64 x8) 128) * x5))))) ((IntKind.wrap .i64 (x5 * 128))) w6)
 (Br (((IntKind.wrap .i64 x8) : Int) == 0)
 (Br (decide (x3 > 0))
 (R (.returned (.tuple #[(0:Int), (0:Int), (2:Int)])) w6)
 (Br (decide (((IntKind.wrap .i64 (x4 + (IntKind.wrap .i64 ((Int.tmod (IntKind.wrap .i64 x8) 128) * x5)))) : Int) > 1048576))
 (R (.returned (.tuple #[(0:Int), (0:Int), (2:Int)])) w6)
 (R (.returned (.tuple #[(IntKind.wrap .i64 (x4 + (IntKind.wrap .i64 ((Int.tmod (IntKind.wrap .i64 x8) 128) * x5)))), (IntKind.wrap .i64 (x3 + 1)), (0:Int)])) w6)))
 (Br (decide (((IntKind.wrap .i64 (x4 + (IntKind.wrap .i64 ((Int.tmod (IntKind.wrap .i64 x8) 128) * x5)))) : Int) > 1048576))
 (R (.returned (.tuple #[(0:Int), (0:Int), (2:Int)])) w6)
 (R (.returned (.tuple #[(IntKind.wrap .i64 (x4 + (IntKind.wrap .i64 ((Int.tmod (IntKind.wrap .i64 x8) 128) * x5)))), (IntKind.wrap .i64 (x3 + 1)), (0:Int)])) w6)))))
 (R (.returned (.tuple #[(0:Int), (0:Int), (2:Int)])) w6)
theorem lC.vc {a0 w} (h : lC.pre a0 w R) : Calls Tryz.prog fg #[a0] w R :=
 cq ⟨[(4, ⟨[(7, .int .i64), (5, .int .i64), (6, .int .i64)], [], []⟩)], [], []⟩ Tryz.func173 h
def oY.pre (a0_0 a0_1 a1 : Int) (w : World) (R : Ending → World → Prop) : Prop :=
 ∀ w0 : World, w0 = w.alloc (.cells #[a0_0, a0_1] 89) →
 ∀ w1 : World, w1 = w0.alloc (.cells #[(0:Int), (0:Int), (0:Int)] 23) →
 Br (decide (a1 < 0))
 (∀ w2 : World, w2 = w1.setRow w0 #[(0:Int), (0:Int), (0:Int)] →
 R (.returned (.tuple #[.agg #[(0:Int), (0:Int), (0:Int)], .bool false])) w2)
 (Br (decide (a1 > 8191))
 (∀ w3 : World, w3 = w1.setRow w0 #[(0:Int), (0:Int), (0:Int)] →
 R (.returned (.tuple #[.agg #[(0:Int), (0:Int), (0:Int)], .bool false])) w3)
 (∀ w4 : World, w4 = w1.setRow w0 #[(IntKind.wrap .i64 ((IntKind.wrap .i64 (a0_0 * 16)) + (Int.tmod a1 16))), (IntKind.wrap .i64 (Int.tdiv a1 256)), (IntKind.wrap .i64 ((IntKind.wrap .i64 (a0_1 * 16)) + (IntKind.wrap .i64 (Int.tdiv (Int.tmod a1 256) 16))))] →
 R (.returned (.tuple #[.agg #[(IntKind.wrap .i64 ((IntKind.wrap .i64 (a0_0 * 16)) + (Int.tmod a1 16))), (IntKind.wrap .i64 (Int.tdiv a1 256)), (IntKind.wrap .i64 ((IntKind.wrap .i64 (a0_1 * 16)) + (IntKind.wrap .i64 (Int.tdiv (Int.tmod a1 256) 16))))], .bool true])) w4))
theorem oY.vc {a0_0 a0_1 a1 w} (h : oY.pre a0_0 a0_1 a1 w R) : Calls Tryz.prog kY #[.agg #[a0_0, a0_1], a1] w R :=
 cq ⟨[], [], []⟩ Tryz.func174 h
def mQ.pre (a0 a1_0 a1_1 a1_2 : Int) (w : World) (R : Ending → World → Prop) : Prop :=
 ∀ w0 : World, w0 = w.alloc (.cells #[a1_0, a1_1, a1_2] 23) →
 Calls Tryz.prog iT #[a0, a1_0, a1_2] w0 (fun e w1 => ∃ (x2 : Int), e = .returned x2 ∧ Kp w w0 w1 ∧
 Br (decide (a1_1 < 0))
 (R (.returned (0:Int)) w1)
 (Br (decide (a1_1 > 31))
 (R (.returned (0:Int)) w1)
 (Br (a1_1 == 0)
 (R (.returned (1:Int)) w1)
 (Br (decide (a1_1 < (IntKind.wrap .i64 (x2 - 3))))
 (R (.returned (1:Int)) w1)
 (Br (decide (a1_1 < (IntKind.wrap .i64 (x2 - 1))))
 (R (.returned (2:Int)) w1)
 (Br (a1_1 == (IntKind.wrap .i64 (x2 - 1)))
 (Br (decide (x2 ≤ 9))
 (R (.returned (3:Int)) w1)
 (R (.returned (2:Int)) w1))
 (Br (decide (a1_1 < 9))
 (R (.returned (8:Int)) w1)
 (R (.returned (0:Int)) w1))))))))
theorem mQ.vc {a0 a1_0 a1_1 a1_2 w} (h : mQ.pre a0 a1_0 a1_1 a1_2 w R) : Calls Tryz.prog j0 #[a0, .agg #[a1_0, a1_1, a1_2]] w R :=
 cq ⟨[], [], []⟩ Tryz.func175 h
def uq.pre (a0 : Sl) (w : World) (R : Ending → World → Prop) : Prop :=
 ∃ I0 : Nat → Int → Sl → World → Prop,
 (∃ n1, I0 n1 (0) ⟨none, 0, 0⟩ w) ∧
 ∀ (n1 : Nat) (us2 : Nat → Value) (x3 : Int) (s4 : Sl) (w5 : World), I0 n1 x3 s4 w5 →
 Br (decide (x3 < ((a0.n : Nat) : Int)))
 (Br (decide (x3 > 0))
 (cn a0.a (IntKind.wrap .i64 (x3 - 1)) a0.n ∧ ∃ (x7 : Int), ld w5.drew (ae a0.a (((IntKind.wrap .i64 (x3 - 1)) : Int).toNat * 1)) = some (.int .i64 x7) ∧
 cn a0.a x3 a0.n ∧ ∃ (x8 : Int), ld w5.drew (ae a0.a ((x3 : Int).toNat * 1)) = some (.int .i64 x8) ∧
 Br (x7 == x8)
 (cn s4.a (IntKind.wrap .i64 (((s4.n : Nat) : Int) - 1)) s4.n ∧ aV (ik (ae s4.a (((IntKind.wrap .i64 (((s4.n : Nat) : Int) - 1)) : Int).toNat * 2))) (∃ (x9 : Int), ld w5.drew (ae (ae s4.a (((IntKind.wrap .i64 (((s4.n : Nat) : Int) - 1)) : Int).toNat * 2)) 0) = some (.int .i64 x9) ∧
 cn s4.a (IntKind.wrap .i64 (((s4.n : Nat) : Int) - 1)) s4.n ∧ aV (ik (ae s4.a (((IntKind.wrap .i64 (((s4.n : Nat) : Int) - 1)) : Int).toNat * 2))) ((((ae (ae s4.a (((IntKind.wrap .i64 (((s4.n : Nat) : Int) - 1)) : Int).toNat * 2)) 0)).isSome = true ∧ Wr w5.drew (ae (ae s4.a (((IntKind.wrap .i64 (((s4.n : Nat) : Int) - 1)) : Int).toNat * 2)) 0) 1) ∧ (∀ w10 : World, w10 = aA w5.drew (ae (ae s4.a (((IntKind.wrap .i64 (((s4.n : Nat) : Int) - 1)) : Int).toNat * 2)) 0) [(IntKind.wrap .i64 (x9 + 1))] →
 ∃ n6, n6 < n1 ∧ I0 n6 ((IntKind.wrap .i64 (x3 + 1))) s4 w10))))
 (cn a0.a x3 a0.n ∧ ∃ (x11 : Int), ld w5.drew (ae a0.a ((x3 : Int).toNat * 1)) = some (.int .i64 x11) ∧
 ∀ w12 : World, w12 = w5.drew.alloc (.cells #[(1:Int), x11] 166) →
 az 16 2 w12 s4 1 [(1:Int), x11] ∧ ∀ (s13 : Sl) (w14 : World), av 166 2 w12 s4 1 [(1:Int), x11] s13 w14 → w14.heap[w5.drew.heap.size]? = w12.heap[w5.drew.heap.size]? ∧
 ∃ n6, n6 < n1 ∧ I0 n6 ((IntKind.wrap .i64 (x3 + 1))) s13 w14))
 (cn a0.a x3 a0.n ∧ ∃ (x15 : Int), ld w5.drew (ae a0.a ((x3 : Int).toNat * 1)) = some (.int .i64 x15) ∧
 ∀ w16 : World, w16 = w5.drew.alloc (.cells #[(1:Int), x15] 166) →
 az 16 2 w16 s4 1 [(1:Int), x15] ∧ ∀ (s17 : Sl) (w18 : World), av 166 2 w16 s4 1 [(1:Int), x15] s17 w18 → w18.heap[w5.drew.heap.size]? = w16.heap[w5.drew.heap.size]? ∧
 ∃ n6, n6 < n1 ∧ I0 n6 ((IntKind.wrap .i64 (x3 + 1))) s17 w18))
 (R (.returned s4) w5)
theorem uq.vc {a0 w} (h : uq.pre a0 w R) : Calls Tryz.prog o5 #[a0] w R :=
 cq ⟨[(3, ⟨[(4, .int .i64), (3, .slice)], [], []⟩)], [], []⟩ Tryz.func176 h
def fC.pre (a0 : Sl) (a1_0 a1_1 : Int) (w : World) (R : Ending → World → Prop) : Prop :=
 ∀ w0 : World, w0 = w.alloc (.cells #[a1_0, a1_1] 89) →
 ∃ I1 : Nat → Int → World → Prop,
 (∃ n2, a6 [a1_0, a1_1] ∧ I1 n2 (0) w0) ∧
 ∀ (n2 : Nat) (us3 : Nat → Value) (x4 : Int) (w5 : World), I1 n2 x4 w5 →
 Br (decide (x4 < ((a0.n : Nat) : Int)))
 (cn a0.a x4 a0.n ∧ ∃ (x7 x8 : Int), aj w5.drew (ae a0.a ((x4 : Int).toNat * 2)) 0 [x7, x8] ∧
 Br ((a1_0 == x7) && (a1_1 == x8))
 (R (.returned x4) w5.drew)
 (∃ n6, n6 < n2 ∧ a6 [a1_0, a1_1] ∧ I1 n6 ((IntKind.wrap .i64 (x4 + 1))) w5.drew))
 (R (.returned (.int .i64 (-1))) w5)
theorem fC.vc {a0 a1_0 a1_1 w} (h : fC.pre a0 a1_0 a1_1 w R) : Calls Tryz.prog eu #[a0, .agg #[a1_0, a1_1]] w R :=
 cq ⟨[(2, ⟨[(8, .int .i64)], [], []⟩)], [], []⟩ Tryz.func184 h
def lD.pre (a0 : Int) (w : World) (R : Ending → World → Prop) : Prop :=
 Br (a0 == 0)
 (R (.returned (.bool true)) w)
 (Calls Tryz.prog jH #[a0] w (fun e w0 => ∃ (b1 : Bool), e = .returned (.bool b1) ∧
 R (.returned (.bool b1)) w0))
theorem lD.vc {a0 w} (h : lD.pre a0 w R) : Calls Tryz.prog nc #[a0] w R :=
 cq ⟨[], [], []⟩ Tryz.func185 h
def jK.pre (a0 : Int) (w : World) (R : Ending → World → Prop) : Prop :=
 R (.returned ((IntKind.wrap .i64 (8 + (if 7 < (if 0 > a0 then 0 else a0) then 7 else (if 0 > a0 then 0 else a0)))))) w
theorem jK.vc {a0 w} (h : jK.pre a0 w R) : Calls Tryz.prog oI #[a0] w R :=
 cq ⟨[], [], []⟩ Tryz.func187 h
def nm.pre  (w : World) (R : Ending → World → Prop) : Prop :=
 ∀ w0 : World, w0 = w.alloc (.cells #[.string (ByteArray.mk #[]), .string (ByteArray.mk #[]), .string (ByteArray.mk #[]), .string (ByteArray.mk #[]), .string (ByteArray.mk #[]), .string (ByteArray.mk #[]), .string (ByteArray.mk #[]), .string (ByteArray.mk #[]), .string (ByteArray.mk #[]), .string (ByteArray.mk #[]), .string (ByteArray.mk #[]), .string (ByteArray.mk #[]), .string (ByteArray.mk #[]), .string (ByteArray.mk #[]), .string (ByteArray.mk #[]), .string (ByteArray.mk #[])] 254) →
 ∀ w1 : World, w1 = w0.alloc (.cells #[.string (ByteArray.mk #[]), .string (ByteArray.mk #[]), .string (ByteArray.mk #[]), .string (ByteArray.mk #[]), .string (ByteArray.mk #[]), .string (ByteArray.mk #[]), .string (ByteArray.mk #[]), .string (ByteArray.mk #[]), .string (ByteArray.mk #[]), .string (ByteArray.mk #[]), .string (ByteArray.mk #[]), .string (ByteArray.mk #[]), .string (ByteArray.mk #[]), .string (ByteArray.mk #[]), .string (ByteArray.mk #[]), .string (ByteArray.mk #[])] 254) →
 (true = true ∧ Wr w1 (some ⟨w0, 0, none⟩) 16) ∧ (∀ w2 : World, w2 = aA w1 (some ⟨w0, 0, none⟩) [.string (ByteArray.mk #[97, 105, 114]), .string (ByteArray.mk #[115, 116, 111, 110, 101]), .string (ByteArray.mk #[100, 105, 114, 116]), .string (ByteArray.mk #[115, 97, 110, 100]), .string (ByteArray.mk #[108, 97, 100, 100, 101, 114]), .string (ByteArray.mk #[103, 108, 97, 115, 115]), .string (ByteArray.mk #[]), .string (ByteArray.mk #[]), .string (ByteArray.mk #[]), .string (ByteArray.mk #[]), .string (ByteArray.mk #[]), .string (ByteArray.mk #[]), .string (ByteArray.mk #[]), .string (ByteArray.mk #[]), .string (ByteArray.mk #[]), .string (ByteArray.mk #[])] →
 ∃ I3 : Nat → Int → World → Prop,
 (∃ n4, I3 n4 (0) w2) ∧
 ∀ (n4 : Nat) (us5 : Nat → Value) (x6 : Int) (w7 : World), I3 n4 x6 w7 →
 Br (decide (x6 < 8))
 (Calls Tryz.prog jb #[x6] w7 (fun e w9 => ∃ (t10 : ByteArray), e = .returned (.string t10) ∧
 ((((ByteArray.mk #[119, 97, 116, 101, 114])).size + (t10).size : Nat) : Int) ≤ IntKind.i64.max ∧ (0 : Int) ≤ (IntKind.wrap .i64 (8 + x6)) ∧ ((IntKind.wrap .i64 (8 + x6)) : Int) < ((16 : Nat) : Int) ∧ (true = true ∧ Wr w9 (ae (some ⟨w0, 0, none⟩) (((IntKind.wrap .i64 (8 + x6)) : Int).toNat * 1)) 1) ∧ (∀ w11 : World, w11 = aA w9 (ae (some ⟨w0, 0, none⟩) (((IntKind.wrap .i64 (8 + x6)) : Int).toNat * 1)) [.string ((ByteArray.mk #[119, 97, 116, 101, 114]) ++ t10)] →
 ∃ n8, n8 < n4 ∧ I3 n8 ((IntKind.wrap .i64 (x6 + 1))) w11)))
 (∃ (t12 t13 t14 t15 t16 t17 t18 t19 t20 t21 t22 t23 t24 t25 t26 t27 : ByteArray), aj w7 (some ⟨w0, 0, none⟩) 0 [.string t12, .string t13, .string t14, .string t15, .string t16, .string t17, .string t18, .string t19, .string t20, .string t21, .string t22, .string t23, .string t24, .string t25, .string t26, .string t27] ∧
 (true = true ∧ Wr w7 (some ⟨w, 0, none⟩) 16) ∧ (∀ w28 : World, w28 = aA w7 (some ⟨w, 0, none⟩) [.string t12, .string t13, .string t14, .string t15, .string t16, .string t17, .string t18, .string t19, .string t20, .string t21, .string t22, .string t23, .string t24, .string t25, .string t26, .string t27] →
 ∃ (t29 t30 t31 t32 t33 t34 t35 t36 t37 t38 t39 t40 t41 t42 t43 t44 : ByteArray), aj w28 (some ⟨w, 0, none⟩) 0 [.string t29, .string t30, .string t31, .string t32, .string t33, .string t34, .string t35, .string t36, .string t37, .string t38, .string t39, .string t40, .string t41, .string t42, .string t43, .string t44] ∧
 R (.returned (.agg #[.string t29, .string t30, .string t31, .string t32, .string t33, .string t34, .string t35, .string t36, .string t37, .string t38, .string t39, .string t40, .string t41, .string t42, .string t43, .string t44])) w28)))
theorem nm.vc {w} (h : nm.pre  w R) : Calls Tryz.prog j8 #[] w R :=
 cq ⟨[(3, ⟨[(4, .int .i64)], [], []⟩)], [], []⟩ Tryz.func190 h
def uC.pre (a0 : Sl) (w : World) (R : Ending → World → Prop) : Prop :=
 ∃ I0 : Nat → Int → Int → World → Prop,
 (∃ n1, I0 n1 (0) (0) w) ∧
 ∀ (n1 : Nat) (us2 : Nat → Value) (x3 x4 : Int) (w5 : World), I0 n1 x3 x4 w5 →
 Br (decide (x3 < ((a0.n : Nat) : Int)))
 (cn a0.a x3 a0.n ∧ ∃ (x7 x8 : Int), aj w5 (ae a0.a ((x3 : Int).toNat * 2)) 0 [x7, x8] ∧
 ∀ w9 : World, w9 = w5.alloc (.cells #[(0:Int), (0:Int)] 166) →
 ∀ w10 : World, w10 = w9.setRow w5 #[x7, x8] →
 ∃ n6, n6 < n1 ∧ I0 n6 ((IntKind.wrap .i64 (x3 + 1))) ((IntKind.wrap .i64 (x4 + x7))) w10)
 (R (.returned x4) w5)
theorem uC.vc {a0 w} (h : uC.pre a0 w R) : Calls Tryz.prog ja #[a0] w R :=
 cq ⟨[(3, ⟨[(8, .int .i64), (3, .int .i64)], [], []⟩)], [], []⟩ Tryz.func191 h
def rF.pre (a0 : Sl) (a1 a2 a3 : Int) (w : World) (R : Ending → World → Prop) : Prop :=
 Calls Tryz.prog ja #[a0] w (fun e w0 => ∃ (x1 : Int), e = .returned x1 ∧
 Calls Tryz.prog dB #[a3] w0 (fun e w2 => ∃ (b3 : Bool), e = .returned (.bool b3) ∧
 Br (!b3)
 (Calls Tryz.prog aY #[a0] w2 (fun e w4 => ∃ (s5 : Sl), e = .returned s5 ∧
 R (.returned s5) w4))
 (Br (decide (((if x1 < (if 0 > a1 then 0 else a1) then x1 else (if 0 > a1 then 0 else a1)) : Int) ≥ (if x1 < (if 0 > a2 then 0 else a2) then x1 else (if 0 > a2 then 0 else a2))))
 (Calls Tryz.prog aY #[a0] w2 (fun e w6 => ∃ (s7 : Sl), e = .returned s7 ∧
 R (.returned s7) w6))
 (Calls Tryz.prog ly #[a0, (0:Int), .int .i64 (if x1 < (if 0 > a1 then 0 else a1) then x1 else (if 0 > a1 then 0 else a1))] w2 (fun e w8 => ∃ (s9 : Sl), e = .returned s9 ∧
 Calls Tryz.prog ni #[(IntKind.wrap .i64 ((if x1 < (if 0 > a2 then 0 else a2) then x1 else (if 0 > a2 then 0 else a2)) - (if x1 < (if 0 > a1 then 0 else a1) then x1 else (if 0 > a1 then 0 else a1)))), a3] w8 (fun e w10 => ∃ (s11 : Sl), e = .returned s11 ∧
 Calls Tryz.prog ly #[a0, .int .i64 (if x1 < (if 0 > a2 then 0 else a2) then x1 else (if 0 > a2 then 0 else a2)), x1] w10 (fun e w12 => ∃ (s13 : Sl), e = .returned s13 ∧
 ∀ w14 : World, w14 = w12.alloc (.cells #[s9, s11, s13] 106) →
 Calls Tryz.prog nh #[.slice (some ⟨w12, 0, none⟩) 3 3] w14 (fun e w15 => ∃ (s16 : Sl), e = .returned s16 ∧
 R (.returned s16) w15))))))))
theorem rF.vc {a0 a1 a2 a3 w} (h : rF.pre a0 a1 a2 a3 w R) : Calls Tryz.prog ng #[a0, a1, a2, a3] w R :=
 cq ⟨[], [], []⟩ Tryz.func192 h
def px.pre (a0 : Sl) (w : World) (R : Ending → World → Prop) : Prop :=
 ∃ I0 : Nat → Int → Int → World → Prop,
 (∃ n1, I0 n1 (0) (1048576) w) ∧
 ∀ (n1 : Nat) (us2 : Nat → Value) (x3 x4 : Int) (w5 : World), I0 n1 x3 x4 w5 →
 Br (decide (x3 < ((a0.n : Nat) : Int)))
 (cn a0.a x3 a0.n ∧ ∃ (x7 x8 : Int), aj w5 (ae a0.a ((x3 : Int).toNat * 2)) 0 [x7, x8] ∧
 ∀ w9 : World, w9 = w5.alloc (.cells #[(0:Int), (0:Int)] 166) →
 ∀ w10 : World, w10 = w9.setRow w5 #[x7, x8] →
 Br (decide (x7 < 1))
 (R (.returned (.tuple #[.slice none 0 0, (1:Int)])) w10)
 (Br (decide (((IntKind.wrap .i64 (x4 - x7)) : Int) < 0))
 (R (.returned (.tuple #[.slice none 0 0, (1:Int)])) w10)
 (∃ n6, n6 < n1 ∧ I0 n6 ((IntKind.wrap .i64 (x3 + 1))) ((IntKind.wrap .i64 (x4 - x7))) w10)))
 (Calls Tryz.prog ja #[a0] w5 (fun e w11 => ∃ (x12 : Int), e = .returned x12 ∧
 Calls Tryz.prog lv #[a0, x12] w11 (fun e w13 => ∃ (b14 : Bool), e = .returned (.bool b14) ∧
 Br (!b14)
 (R (.returned (.tuple #[.slice none 0 0, (1:Int)])) w13)
 (∃ I15 : Nat → Int → Sl → World → Prop,
 (∃ n16, I15 n16 (0) ⟨none, 0, 0⟩ w13) ∧
 ∀ (n16 : Nat) (us17 : Nat → Value) (x18 : Int) (s19 : Sl) (w20 : World), I15 n16 x18 s19 w20 →
 Br (decide (x18 < ((a0.n : Nat) : Int)))
 (cn a0.a x18 a0.n ∧ ∃ (x22 x23 : Int), aj w20 (ae a0.a ((x18 : Int).toNat * 2)) 0 [x22, x23] ∧
 ∀ w24 : World, w24 = w20.alloc (.cells #[(0:Int), (0:Int)] 166) →
 ∀ w25 : World, w25 = w24.setRow w20 #[x22, x23] →
 ∀ w26 : World, w26 = w25.drew.alloc (.cells #[.int .u8 (IntKind.wrap .u8 x23)] 5) →
 az 1 1 w26 s19 1 [.int .u8 (IntKind.wrap .u8 x23)] ∧ ∀ (s27 : Sl) (w28 : World), av 5 1 w26 s19 1 [.int .u8 (IntKind.wrap .u8 x23)] s27 w28 → w28.heap[w20.heap.size]? = w26.heap[w20.heap.size]? ∧ w28.heap[w25.drew.heap.size]? = w26.heap[w25.drew.heap.size]? ∧
 aj w28 (some ⟨w20, 0, none⟩) 0 [x22] ∧ aj w28 (some ⟨w20, 1, none⟩) 0 [x23] ∧ Calls Tryz.prog j9 #[x22] w28 (fun e w29 => ∃ (s30 : Sl), e = .returned s30 ∧ w29.heap[w20.heap.size]? = w28.heap[w20.heap.size]? ∧ w29.heap[w25.drew.heap.size]? = w28.heap[w25.drew.heap.size]? ∧
 aj w29 (some ⟨w20, 1, none⟩) 0 [x23] ∧ ∃ l31 : List Value, Rd w29 s30.a l31 ∧ az 1 1 w29 s27 s30.n l31 ∧ ∀ (s32 : Sl) (w33 : World), av 5 1 w29 s27 s30.n l31 s32 w33 → w33.heap[w20.heap.size]? = w29.heap[w20.heap.size]? ∧ w33.heap[w25.drew.heap.size]? = w29.heap[w25.drew.heap.size]? ∧
 aj w33 (some ⟨w20, 1, none⟩) 0 [x23] ∧ ∃ n21, n21 < n16 ∧ I15 n21 ((IntKind.wrap .i64 (x18 + 1))) s32 w33))
 (R (.returned (.tuple #[s19, (0:Int)])) w20)))))
theorem px.vc {a0 w} (h : px.pre a0 w R) : Calls Tryz.prog lx #[a0] w R :=
 cq ⟨[(13, ⟨[(35, .int .i64), (7, .slice)], [], []⟩), (3, ⟨[(12, .int .i64), (4, .int .i64)], [], []⟩)], [], []⟩ Tryz.func196 h
def kd.pre (a0 : Addr) (w : World) (R : Ending → World → Prop) : Prop :=
 ∃ (m0 : Option Nat), ld w (ae (some a0) 3) = some (.map m0) ∧
 Calls Tryz.prog fh #[.map m0] w (fun e w1 => ∃ (m2 : Option Nat), e = .returned (.map m2) ∧
 ∃ (s3 : Sl), ld w1 (ae (some a0) 4) = some (.slice s3.a s3.n s3.c) ∧
 ∃ I4 : Nat → Int → World → Prop,
 (∃ n5, I4 n5 (0) w1) ∧
 ∀ (n5 : Nat) (us6 : Nat → Value) (x7 : Int) (w8 : World), I4 n5 x7 w8 →
 Br (decide (x7 < ((s3.n : Nat) : Int)))
 (cn s3.a x7 s3.n ∧ ∃ (x10 : Int) (s11 : Sl), aj w8 (ae s3.a ((x7 : Int).toNat * 2)) 0 [x10, s11] ∧
 ∀ w12 : World, w12 = w8.alloc (.cells #[(0:Int), .slice none 0 0] 289) →
 ∀ w13 : World, w13 = w12.setRow w8 #[x10, s11] →
 ∃ (G14 : Value → Prop) (kvs15 : List (Value × Value)), dD Tryz.prog 3 G14 ∧ (m2 : Option Nat).isSome = true ∧ aJ G14 w13 m2 kvs15 ∧ G14 x10 ∧ ∀ w16 : World, Rec ((m2 : Option Nat).getD 0) w13 w16 → aJ G14 w16 m2 (py kvs15 x10 s11) →
 ∃ n9, n9 < n5 ∧ I4 n9 ((IntKind.wrap .i64 (x7 + 1))) w16)
 (R (.returned (.map m2)) w8))
theorem kd.vc {a0 w} (h : kd.pre a0 w R) : Calls Tryz.prog gT #[.pointer (some a0)] w R :=
 cq ⟨[(3, ⟨[(16, .int .i64)], [], []⟩)], [], []⟩ Tryz.func202 h
def fb.pre (a0 : Sl) (w : World) (R : Ending → World → Prop) : Prop :=
 Br (a0.a).isNone
 (R (.returned (.slice none 0 0)) w)
 (∀ w0 : World, w0 = w.alloc (.cells #[] 5) →
 ∃ l1 : List Value, Rd w0 a0.a l1 ∧ az 1 1 w0 ⟨(some ⟨w, 0, none⟩), 0, 0⟩ a0.n l1 ∧ ∀ (s2 : Sl) (w3 : World), av 5 1 w0 ⟨(some ⟨w, 0, none⟩), 0, 0⟩ a0.n l1 s2 w3 → Kp w w0 w3 ∧
 R (.returned s2) w3)
theorem fb.vc {a0 w} (h : fb.pre a0 w R) : Calls Tryz.prog cy #[a0] w R :=
 cq ⟨[], [], []⟩ Tryz.func203 h
def ub.pre (a0 : Sl) (w : World) (R : Ending → World → Prop) : Prop :=
 Br (decide ((((a0.n : Nat) : Int) : Int) < 2))
 (R (.returned (.tuple #[.slice none 0 0, (3:Int)])) w)
 (Calls Tryz.prog 237 #[a0] w (fun e w0 => ∃ (b1 : Bool), e = .returned (.bool b1) ∧
 Br (!b1)
 (R (.returned (.tuple #[.slice none 0 0, (4:Int)])) w0)
 ((0 : Int) ≤ (IntKind.wrap .i64 (((a0.n : Nat) : Int) - 2)) ∧ (IntKind.wrap .i64 (((a0.n : Nat) : Int) - 2)) ≤ ((a0.c : Nat) : Int) ∧ Calls Tryz.prog cy #[.slice (ai a0.a (0) (a0.c) 1) (((IntKind.wrap .i64 (((a0.n : Nat) : Int) - 2)) : Int).toNat - 0) (a0.c - 0)] w0 (fun e w2 => ∃ (s3 : Sl), e = .returned s3 ∧
 R (.returned (.tuple #[s3, (0:Int)])) w2))))
theorem ub.vc {a0 w} (h : ub.pre a0 w R) : Calls Tryz.prog oV #[a0] w R :=
 cq ⟨[], [], []⟩ Tryz.func204 h
def np.pre (a0 : Value) (c0 : Addr) (c1 : Addr) (w : World) (R : Ending → World → Prop) : Prop :=
 ∀ w0 : World, w0 = w.alloc (.cells #[.int .i64 0, .int .i64 0, .int .i64 0, .int .i64 0, .int .i64 0, .int .i64 0, .int .i64 0, .int .i64 0, .int .i64 0, .int .i64 0, .int .i64 0, .int .i64 0, .int .i64 0, .int .i64 0, .int .i64 0, .int .i64 0, .int .i64 0, .int .i64 0, .int .i64 0, .int .i64 0, .int .i64 0, .int .i64 0, .int .i64 0, .int .i64 0, .int .i64 0, .int .i64 0, .int .i64 0, .int .i64 0, .int .i64 0, .int .i64 0, .int .i64 0, .int .i64 0, .int .i64 0, .int .i64 0, .int .i64 0, .int .i64 0, .int .i64 0, .int .i64 0, .int .i64 0, .int .i64 0, .int .i64 0, .int .i64 0, .int .i64 0, .int .i64 0, .int .i64 0, .int .i64 0, .int .i64 0, .int .i64 0, .int .i64 0, .int .i64 0, .int .i64 0, .int .i64 0, .int .i64 0, .int .i64 0, .int .i64 0, .int .i64 0, .int .i64 0, .int .i64 0, .int .i64 0, .int .i64 0, .int .i64 0, .int .i64 0, .int .i64 0, .int .i64 0, .int .i64 0, .int .i64 0, .int .i64 0, .int .i64 0, .int .i64 0, .int .i64 0, .int .i64 0, .int .i64 0, .int .i64 0, .int .i64 0, .int .i64 0, .int .i64 0, .int .i64 0, .int .i64 0, .int .i64 0, .int .i64 0, .int .i64 0, .int .i64 0, .int .i64 0, .int .i64 0, .int .i64 0, .int .i64 0, .int .i64 0, .int .i64 0, .int .i64 0, .int .i64 0, .int .i64 0, .int .i64 0, .int .i64 0, .int .i64 0, .int .i64 0, .int .i64 0, .int .i64 0, .int .i64 0, .int .i64 0, .int .i64 0, .int .i64 0, .int .i64 0, .int .i64 0, .int .i64 0, .int .i64 0, .int .i64 0, .int .i64 0, .int .i64 0, .int .i64 0, .int .i64 0, .int .i64 0, .int .i64 0, .int .i64 0, .int .i64 0, .int .i64 0, .int .i64 0, .int .i64 0, .int .i64 0, .int .i64 0, .int .i64 0, .int .i64 0, .int .i64 0, .int .i64 0, .int .i64 0, .int .i64 0, .int .i64 0, .int .i64 0, .int .i64 0, .int .i64 0, .int .i64 0, .int .i64 0, .int .i64 0, .int .i64 0, .int .i64 0, .int .i64 0, .int .i64 0, .int .i64 0, .int .i64 0, .int .i64 0, .int .i64 0, .int .i64 0, .int .i64 0, .int .i64 0, .int .i64 0, .int .i64 0, .int .i64 0, .int .i64 0, .int .i64 0, .int .i64 0, .int .i64 0, .int .i64 0, .int .i64 0, .int .i64 0, .int .i64 0, .int .i64 0, .int .i64 0, .int .i64 0, .int .i64 0, .int .i64 0, .int .i64 0, .int .i64 0, .int .i64 0, .int .i64 0, .int .i64 0, .int .i64 0, .int .i64 0, .int .i64 0, .int .i64 0, .int .i64 0, .int .i64 0, .int .i64 0, .int .i64 0, .int .i64 0, .int .i64 0, .int .i64 0, .int .i64 0, .int .i64 0, .int .i64 0, .int .i64 0, .int .i64 0, .int .i64 0, .int .i64 0, .int .i64 0, .int .i64 0, .int .i64 0, .int .i64 0, .int .i64 0, .int .i64 0, .int .i64 0, .int .i64 0, .int .i64 0, .int .i64 0, .int .i64 0, .int .i64 0, .int .i64 0, .int .i64 0, .int .i64 0, .int .i64 0, .int .i64 0, .int .i64 0, .int .i64 0, .int .i64 0, .int .i64 0, .int .i64 0, .int .i64 0, .int .i64 0, .int .i64 0, .int .i64 0, .int .i64 0, .int .i64 0, .int .i64 0, .int .i64 0, .int .i64 0, .int .i64 0, .int .i64 0, .int .i64 0, .int .i64 0, .int .i64 0, .int .i64 0, .int .i64 0, .int .i64 0, .int .i64 0, .int .i64 0, .int .i64 0, .int .i64 0, .int .i64 0, .int .i64 0, .int .i64 0, .int .i64 0, .int .i64 0, .int .i64 0, .int .i64 0, .int .i64 0, .int .i64 0, .int .i64 0, .int .i64 0, .int .i64 0, .int .i64 0, .int .i64 0, .int .i64 0, .int .i64 0, .int .i64 0, .int .i64 0, .int .i64 0, .int .i64 0, .int .i64 0, .int .i64 0, .int .i64 0, .int .i64 0, .int .i64 0, .int .i64 0, .int .i64 0, .int .i64 0, .int .i64 0, .int .i64 0, .int .i64 0] 267) →
 ∃ I1 : Nat → Int → World → Prop,
 (∃ n2, I1 n2 (0) w0) ∧
 ∀ (n2 : Nat) (us3 : Nat → Value) (x4 : Int) (w5 : World), I1 n2 x4 w5 →
 Br (decide ((x4 : Int) < 256))
 (∃ (x7 : Int) (x8 : Int), aj w5 (some c0) 0 [.int .i64 x7, .int .i64 x8] ∧
 Calls Tryz.prog mM #[.agg #[.int .i64 x7, .int .i64 x8], .int .i64 x4] w5 (fun e w9 => ∃ (x10 : Int) (x11 : Int) (x12 : Int) (b13 : Bool), e = .returned (.tuple #[.agg #[.int .i64 x10, .int .i64 x11, .int .i64 x12], .bool b13]) ∧
 ∀ w14 : World, w14 = w9.alloc (.cells #[.int .i64 0, .int .i64 0, .int .i64 0] 23) →
 ∀ w15 : World, w15 = w14.setRow w9.heap.size #[.int .i64 x10, .int .i64 x11, .int .i64 x12] →
 ∃ (x16 : Int), ld w15 (some c1) = some (.int .i64 x16) ∧
 Calls Tryz.prog lh #[.int .i64 x16, .int .i64 x10, .int .i64 x12] w15 (fun e w17 => ∃ (x18 : Int), e = .returned (.int .i64 x18) ∧ w17.heap[w9.heap.size]? = w15.heap[w9.heap.size]? ∧
 (0 : Int) ≤ x4 ∧ (x4 : Int) < ((256 : Nat) : Int) ∧ (true = true ∧ Wr w17 (ae (some ⟨w.heap.size, 0, none⟩) ((x4 : Int).toNat * 1)) 1) ∧ bD (ae (some ⟨w.heap.size, 0, none⟩) ((x4 : Int).toNat * 1)) ≠ some w9.heap.size ∧ (∀ w19 : World, w19 = aA w17 (ae (some ⟨w.heap.size, 0, none⟩) ((x4 : Int).toNat * 1)) [.int .i64 x18] →
 ∃ n6, n6 < n2 ∧ I1 n6 ((IntKind.wrap .i64 (x4 + 1))) w19))))
 (∃ I20 : Nat → Int → World → Prop,
 (∃ n21, I20 n21 (0) w5) ∧
 ∀ (n21 : Nat) (us22 : Nat → Value) (x23 : Int) (w24 : World), I20 n21 x23 w24 →
 Br (decide ((x23 : Int) < 8192))
 ((0 : Int) ≤ (Int.tmod x23 256) ∧ ((Int.tmod x23 256) : Int) < ((256 : Nat) : Int) ∧ ∃ (x26 : Int), ld w24 (ae (some ⟨w.heap.size, 0, none⟩) (((Int.tmod x23 256) : Int).toNat * 1)) = some (.int .i64 x26) ∧
 Calls Tryz.prog uu #[.int .i64 (IntKind.wrap .i64 (Int.tdiv x23 256)), .int .i64 x26] w24 (fun e w27 => ∃ (x28 : Int), e = .returned (.int .i64 x28) ∧
 a8 Tryz.prog a0 [.int .i64 x28] w27 (fun e w29 => ∃ (b30 : Bool), e = .returned (.bool b30) ∧
 Br (!b30)
 (R (.returned (.tuple #[])) w29)
 (∃ n25, n25 < n21 ∧ I20 n25 ((IntKind.wrap .i64 (x23 + 1))) w29))))
 (R (.returned (.tuple #[])) w24))
theorem np.vc {a0 c0 c1 w} (h : np.pre a0 c0 c1 w R) : Calls Tryz.prog vO #[a0, .pointer (some c0), .pointer (some c1)] w R :=
 cq ⟨[(8, ⟨[(27, .int .i64)], [], []⟩), (2, ⟨[(9, .int .i64)], [], []⟩)], [], []⟩ Tryz.func206 h
def re.pre (a0_0 a0_1 a1 : Int) (w : World) (R : Ending → World → Prop) : Prop :=
 ∀ w0 : World, w0 = w.alloc (.cells #[a0_0, a0_1] 89) →
 ∀ w1 : World, w1 = w0.alloc (.cells #[(0:Int), (0:Int), (0:Int)] 23) →
 Br (decide (a1 < 0))
 (∀ w2 : World, w2 = w1.setRow w0 #[(0:Int), (0:Int), (0:Int)] →
 R (.returned (.tuple #[.agg #[(0:Int), (0:Int), (0:Int)], .bool false])) w2)
 (Br (decide (a1 ≥ 8192))
 (∀ w3 : World, w3 = w1.setRow w0 #[(0:Int), (0:Int), (0:Int)] →
 R (.returned (.tuple #[.agg #[(0:Int), (0:Int), (0:Int)], .bool false])) w3)
 (∀ w4 : World, w4 = w1.setRow w0 #[(IntKind.wrap .i64 ((IntKind.wrap .i64 (a0_0 * 16)) + (Int.tmod a1 16))), (IntKind.wrap .i64 (Int.tdiv a1 256)), (IntKind.wrap .i64 ((IntKind.wrap .i64 (a0_1 * 16)) + (Int.tmod (IntKind.wrap .i64 (Int.tdiv a1 16)) 16)))] →
 R (.returned (.tuple #[.agg #[(IntKind.wrap .i64 ((IntKind.wrap .i64 (a0_0 * 16)) + (Int.tmod a1 16))), (IntKind.wrap .i64 (Int.tdiv a1 256)), (IntKind.wrap .i64 ((IntKind.wrap .i64 (a0_1 * 16)) + (Int.tmod (IntKind.wrap .i64 (Int.tdiv a1 16)) 16)))], .bool true])) w4))
theorem re.vc {a0_0 a0_1 a1 w} (h : re.pre a0_0 a0_1 a1 w R) : Calls Tryz.prog mM #[.agg #[a0_0, a0_1], a1] w R :=
 cq ⟨[], [], []⟩ Tryz.func207 h
def pd.pre (a0 a1 a2 : Int) (w : World) (R : Ending → World → Prop) : Prop :=
 ∀ w0 : World, w0 = w.alloc (.cells #[a0] 3) →
 Calls Tryz.prog fH #[a1, (8:Int)] w0 (fun e w1 => ∃ (x2 : Int), e = .returned x2 ∧ Kp w w0 w1 ∧
 Calls Tryz.prog fH #[a2, (8:Int)] w1 (fun e w3 => ∃ (x4 : Int), e = .returned x4 ∧ Kp w w1 w3 ∧
 Calls Tryz.prog fI #[a1, (8:Int)] w3 (fun e w5 => ∃ (x6 : Int), e = .returned x6 ∧ Kp w w3 w5 ∧
 Calls Tryz.prog fI #[a2, (8:Int)] w5 (fun e w7 => ∃ (x8 : Int), e = .returned x8 ∧ Kp w w5 w7 ∧
 Calls Tryz.prog cG #[x2, x4, (IntKind.wrap .i64 ((IntKind.wrap .i64 (8 - x6)) * (IntKind.wrap .i64 (8 - x8)))), .pointer (some ⟨w, 0, none⟩)] w7 (fun e w9 => ∃ (x10 : Int), e = .returned x10 ∧
 Calls Tryz.prog cG #[(IntKind.wrap .i64 (x2 + 1)), x4, (IntKind.wrap .i64 (x6 * (IntKind.wrap .i64 (8 - x8)))), .pointer (some ⟨w, 0, none⟩)] w9 (fun e w11 => ∃ (x12 : Int), e = .returned x12 ∧
 Calls Tryz.prog cG #[x2, (IntKind.wrap .i64 (x4 + 1)), (IntKind.wrap .i64 ((IntKind.wrap .i64 (8 - x6)) * x8)), .pointer (some ⟨w, 0, none⟩)] w11 (fun e w13 => ∃ (x14 : Int), e = .returned x14 ∧
 Calls Tryz.prog cG #[(IntKind.wrap .i64 (x2 + 1)), (IntKind.wrap .i64 (x4 + 1)), (IntKind.wrap .i64 (x6 * x8)), .pointer (some ⟨w, 0, none⟩)] w13 (fun e w15 => ∃ (x16 : Int), e = .returned x16 ∧
 R (.returned ((IntKind.wrap .i64 (6 + (IntKind.wrap .i64 (Int.tdiv (IntKind.wrap .i64 ((IntKind.wrap .i64 ((IntKind.wrap .i64 (x10 + x12)) + x14)) + x16)) 64)))))) w15))))))))
theorem pd.vc {a0 a1 a2 w} (h : pd.pre a0 a1 a2 w R) : Calls Tryz.prog lh #[a0, a1, a2] w R :=
 cq ⟨[], [], []⟩ Tryz.func208 h
def xP.pre (a0 a1 : Int) (w : World) (R : Ending → World → Prop) : Prop :=
 Br (decide (a0 < 0))
 (R (.returned (0:Int)) w)
 (Br (decide (a0 ≥ 32))
 (R (.returned (0:Int)) w)
 (Br (a0 == 0)
 (R (.returned (1:Int)) w)
 (Br (decide (a0 < (IntKind.wrap .i64 (a1 - 3))))
 (R (.returned (1:Int)) w)
 (Br (decide (a0 < (IntKind.wrap .i64 (a1 - 1))))
 (R (.returned (2:Int)) w)
 (Br (a0 == (IntKind.wrap .i64 (a1 - 1)))
 (Br (decide (a1 > 9))
 (R (.returned (2:Int)) w)
 (Br (a0 == (IntKind.wrap .i64 (a1 - 1)))
 (R (.returned (3:Int)) w)
 (Br (decide (a0 < 9))
 (R (.returned (8:Int)) w)
 (R (.returned (0:Int)) w))))
 (Br (a0 == (IntKind.wrap .i64 (a1 - 1)))
 (R (.returned (3:Int)) w)
 (Br (decide (a0 < 9))
 (R (.returned (8:Int)) w)
 (R (.returned (0:Int)) w))))))))
theorem xP.vc {a0 a1 w} (h : xP.pre a0 a1 w R) : Calls Tryz.prog uu #[a0, a1] w R :=
 cq ⟨[], [], []⟩ Tryz.func209 h
def rG.pre (a0 : Sl) (a1_0 a1_1 : Int) (w : World) (R : Ending → World → Prop) : Prop :=
 ∀ w0 : World, w0 = w.alloc (.cells #[a1_0, a1_1] 166) →
 Br (decide (a1_0 < 1))
 (R (.returned a0) w0)
 (Br (decide (((IntKind.wrap .i64 (((a0.n : Nat) : Int) - 1)) : Int) ≥ 0))
 (cn a0.a (IntKind.wrap .i64 (((a0.n : Nat) : Int) - 1)) a0.n ∧ aV (ik (ae a0.a (((IntKind.wrap .i64 (((a0.n : Nat) : Int) - 1)) : Int).toNat * 2))) (∃ (x1 : Int), ld w0.drew (ae (ae a0.a (((IntKind.wrap .i64 (((a0.n : Nat) : Int) - 1)) : Int).toNat * 2)) 1) = some (.int .i64 x1) ∧
 Br (x1 == a1_1)
 (cn a0.a (IntKind.wrap .i64 (((a0.n : Nat) : Int) - 1)) a0.n ∧ aV (ik (ae a0.a (((IntKind.wrap .i64 (((a0.n : Nat) : Int) - 1)) : Int).toNat * 2))) (∃ (x2 : Int), ld w0.drew.drew (ae (ae a0.a (((IntKind.wrap .i64 (((a0.n : Nat) : Int) - 1)) : Int).toNat * 2)) 0) = some (.int .i64 x2) ∧
 cn a0.a (IntKind.wrap .i64 (((a0.n : Nat) : Int) - 1)) a0.n ∧ aV (ik (ae a0.a (((IntKind.wrap .i64 (((a0.n : Nat) : Int) - 1)) : Int).toNat * 2))) ((((ae (ae a0.a (((IntKind.wrap .i64 (((a0.n : Nat) : Int) - 1)) : Int).toNat * 2)) 0)).isSome = true ∧ Wr w0.drew.drew (ae (ae a0.a (((IntKind.wrap .i64 (((a0.n : Nat) : Int) - 1)) : Int).toNat * 2)) 0) 1) ∧ bD (ae (ae a0.a (((IntKind.wrap .i64 (((a0.n : Nat) : Int) - 1)) : Int).toNat * 2)) 0) ≠ some w.heap.size ∧ (∀ w3 : World, w3 = aA w0.drew.drew (ae (ae a0.a (((IntKind.wrap .i64 (((a0.n : Nat) : Int) - 1)) : Int).toNat * 2)) 0) [(IntKind.wrap .i64 (x2 + a1_0))] →
 R (.returned a0) w3))))
 (∀ w4 : World, w4 = w0.drew.alloc (.cells #[a1_0, a1_1] 166) →
 az 16 2 w4 a0 1 [a1_0, a1_1] ∧ ∀ (s5 : Sl) (w6 : World), av 166 2 w4 a0 1 [a1_0, a1_1] s5 w6 → Kp w w4 w6 ∧ w6.heap[w0.drew.heap.size]? = w4.heap[w0.drew.heap.size]? ∧
 R (.returned s5) w6)))
 (∀ w7 : World, w7 = w0.drew.alloc (.cells #[a1_0, a1_1] 166) →
 az 16 2 w7 a0 1 [a1_0, a1_1] ∧ ∀ (s8 : Sl) (w9 : World), av 166 2 w7 a0 1 [a1_0, a1_1] s8 w9 → Kp w w7 w9 ∧ w9.heap[w0.drew.heap.size]? = w7.heap[w0.drew.heap.size]? ∧
 R (.returned s8) w9))
theorem rG.vc {a0 a1_0 a1_1 w} (h : rG.pre a0 a1_0 a1_1 w R) : Calls Tryz.prog dC #[a0, .agg #[a1_0, a1_1]] w R :=
 cq ⟨[], [], []⟩ Tryz.func210 h
def lj.pre (a0 a1 a2 : Int) (w : World) (R : Ending → World → Prop) : Prop :=
 ∃ I0 : Nat → Int → Int → World → Prop,
 (∃ n1, I0 n1 (0) (0) w) ∧
 ∀ (n1 : Nat) (us2 : Nat → Value) (x3 x4 : Int) (w5 : World), I0 n1 x3 x4 w5 →
 Br (decide (x3 < 2))
 (∃ I7 : Nat → Int → Int → World → Prop,
 (∃ n8, I7 n8 (0) x4 w5) ∧
 ∀ (n8 : Nat) (us9 : Nat → Value) (x10 x11 : Int) (w12 : World), I7 n8 x10 x11 w12 →
 Br (decide (x10 < 2))
 (Calls Tryz.prog jC #[a1, (8:Int)] w12 (fun e w14 => ∃ (x15 : Int), e = .returned x15 ∧
 Calls Tryz.prog jC #[a2, (8:Int)] w14 (fun e w16 => ∃ (x17 : Int), e = .returned x17 ∧
 Br (x3 == 0)
 (Br (x10 == 0)
 (Calls Tryz.prog bS #[a1, (8:Int)] w16 (fun e w18 => ∃ (x19 : Int), e = .returned x19 ∧
 Calls Tryz.prog bS #[a2, (8:Int)] w18 (fun e w20 => ∃ (x21 : Int), e = .returned x21 ∧
 Calls Tryz.prog dL #[a0, (IntKind.wrap .i64 (x19 + x3)), (IntKind.wrap .i64 (x21 + x10))] w20 (fun e w22 => ∃ (x23 : Int), e = .returned (.int .u64 x23) ∧
 ∃ n13, n13 < n8 ∧ I7 n13 ((IntKind.wrap .i64 (x10 + 1))) ((IntKind.wrap .i64 (x11 + (IntKind.wrap .i64 ((IntKind.wrap .i64 ((IntKind.wrap .i64 (8 - x15)) * (IntKind.wrap .i64 (8 - x17)))) * (IntKind.wrap .i64 (Int.tmod x23 9))))))) w22))))
 (Calls Tryz.prog bS #[a1, (8:Int)] w16 (fun e w24 => ∃ (x25 : Int), e = .returned x25 ∧
 Calls Tryz.prog bS #[a2, (8:Int)] w24 (fun e w26 => ∃ (x27 : Int), e = .returned x27 ∧
 Calls Tryz.prog dL #[a0, (IntKind.wrap .i64 (x25 + x3)), (IntKind.wrap .i64 (x27 + x10))] w26 (fun e w28 => ∃ (x29 : Int), e = .returned (.int .u64 x29) ∧
 ∃ n13, n13 < n8 ∧ I7 n13 ((IntKind.wrap .i64 (x10 + 1))) ((IntKind.wrap .i64 (x11 + (IntKind.wrap .i64 ((IntKind.wrap .i64 ((IntKind.wrap .i64 (8 - x15)) * x17)) * (IntKind.wrap .i64 (Int.tmod x29 9))))))) w28)))))
 (Br (x10 == 0)
 (Calls Tryz.prog bS #[a1, (8:Int)] w16 (fun e w30 => ∃ (x31 : Int), e = .returned x31 ∧
 Calls Tryz.prog bS #[a2, (8:Int)] w30 (fun e w32 => ∃ (x33 : Int), e = .returned x33 ∧
 Calls Tryz.prog dL #[a0, (IntKind.wrap .i64 (x31 + x3)), (IntKind.wrap .i64 (x33 + x10))] w32 (fun e w34 => ∃ (x35 : Int), e = .returned (.int .u64 x35) ∧
 ∃ n13, n13 < n8 ∧ I7 n13 ((IntKind.wrap .i64 (x10 + 1))) ((IntKind.wrap .i64 (x11 + (IntKind.wrap .i64 ((IntKind.wrap .i64 (x15 * (IntKind.wrap .i64 (8 - x17)))) * (IntKind.wrap .i64 (Int.tmod x35 9))))))) w34))))
 (Calls Tryz.prog bS #[a1, (8:Int)] w16 (fun e w36 => ∃ (x37 : Int), e = .returned x37 ∧
 Calls Tryz.prog bS #[a2, (8:Int)] w36 (fun e w38 => ∃ (x39 : Int), e = .returned x39 ∧
 Calls Tryz.prog dL #[a0, (IntKind.wrap .i64 (x37 + x3)), (IntKind.wrap .i64 (x39 + x10))] w38 (fun e w40 => ∃ (x41 : Int), e = .returned (.int .u64 x41) ∧
 ∃ n13, n13 < n8 ∧ I7 n13 ((IntKind.wrap .i64 (x10 + 1))) ((IntKind.wrap .i64 (x11 + (IntKind.wrap .i64 ((IntKind.wrap .i64 (x15 * x17)) * (IntKind.wrap .i64 (Int.tmod x41 9))))))) w40))))))))
 (∃ n6, n6 < n1 ∧ I0 n6 ((IntKind.wrap .i64 (x3 + 1))) x11 w12))
 (R (.returned ((IntKind.wrap .i64 (6 + (IntKind.wrap .i64 (Int.tdiv x4 64)))))) w5)
theorem lj.vc {a0 a1 a2 w} (h : lj.pre a0 a1 a2 w R) : Calls Tryz.prog iT #[a0, a1, a2] w R :=
 cq ⟨[(6, ⟨[(9, .int .i64), (7, .int .i64)], [], []⟩), (3, ⟨[(8, .int .i64), (7, .int .i64)], [], []⟩)], [], []⟩ Tryz.func219 h
def lE.pre (a0 : Int) (w : World) (R : Ending → World → Prop) : Prop :=
 Calls Tryz.prog eS #[a0] w (fun e w0 => ∃ (t1 : ByteArray), e = .returned (.string t1) ∧
 R (.returned (.string t1)) w0)
theorem lE.vc {a0 w} (h : lE.pre a0 w R) : Calls Tryz.prog jb #[a0] w R :=
 cq ⟨[], [], []⟩ Tryz.func225 h
def rH.pre (a0 : Sl) (w : World) (R : Ending → World → Prop) : Prop :=
 ∃ I0 : Nat → Int → Sl → World → Prop,
 (∃ n1, I0 n1 (0) ⟨none, 0, 0⟩ w) ∧
 ∀ (n1 : Nat) (us2 : Nat → Value) (x3 : Int) (s4 : Sl) (w5 : World), I0 n1 x3 s4 w5 →
 Br (decide (x3 < ((a0.n : Nat) : Int)))
 (cn a0.a x3 a0.n ∧ ∃ (s7 : Sl), ld w5 (ae a0.a ((x3 : Int).toNat * 1)) = some (.slice s7.a s7.n s7.c) ∧
 ∃ I8 : Nat → Int → Sl → World → Prop,
 (∃ n9, I8 n9 (0) s4 w5) ∧
 ∀ (n9 : Nat) (us10 : Nat → Value) (x11 : Int) (s12 : Sl) (w13 : World), I8 n9 x11 s12 w13 →
 Br (decide (x11 < ((s7.n : Nat) : Int)))
 (cn s7.a x11 s7.n ∧ ∃ (x15 x16 : Int), aj w13 (ae s7.a ((x11 : Int).toNat * 2)) 0 [x15, x16] ∧
 ∀ w17 : World, w17 = w13.alloc (.cells #[(0:Int), (0:Int)] 166) →
 ∀ w18 : World, w18 = w17.setRow w13 #[x15, x16] →
 Calls Tryz.prog dC #[s12, .agg #[x15, x16]] w18 (fun e w19 => ∃ (s20 : Sl), e = .returned s20 ∧ Kp w13 w18 w19 ∧
 ∃ n14, n14 < n9 ∧ I8 n14 ((IntKind.wrap .i64 (x11 + 1))) s20 w19))
 (∃ n6, n6 < n1 ∧ I0 n6 ((IntKind.wrap .i64 (x3 + 1))) s12 w13))
 (R (.returned s4) w5)
theorem rH.vc {a0 w} (h : rH.pre a0 w R) : Calls Tryz.prog nh #[a0] w R :=
 cq ⟨[(6, ⟨[(16, .int .i64), (3, .slice)], [], []⟩), (3, ⟨[(10, .int .i64), (3, .slice)], [], []⟩)], [], []⟩ Tryz.func226 h
def uD.pre (a0 : Sl) (a1 a2 : Int) (w : World) (R : Ending → World → Prop) : Prop :=
 ∃ I0 : Nat → Int → Int → Sl → World → Prop,
 (∃ n1, I0 n1 (0) (0) ⟨none, 0, 0⟩ w) ∧
 ∀ (n1 : Nat) (us2 : Nat → Value) (x3 x4 : Int) (s5 : Sl) (w6 : World), I0 n1 x3 x4 s5 w6 →
 Br (decide (x3 < ((a0.n : Nat) : Int)))
 (cn a0.a x3 a0.n ∧ ∃ (x8 x9 : Int), aj w6 (ae a0.a ((x3 : Int).toNat * 2)) 0 [x8, x9] ∧
 ∀ w10 : World, w10 = w6.alloc (.cells #[(0:Int), (0:Int)] 166) →
 ∀ w11 : World, w11 = w10.setRow w6 #[x8, x9] →
 Br (decide (((if (IntKind.wrap .i64 (x4 + x8)) < a2 then (IntKind.wrap .i64 (x4 + x8)) else a2) : Int) > (if x4 > a1 then x4 else a1)))
 (Calls Tryz.prog dC #[s5, .agg #[(IntKind.wrap .i64 ((if (IntKind.wrap .i64 (x4 + x8)) < a2 then (IntKind.wrap .i64 (x4 + x8)) else a2) - (if x4 > a1 then x4 else a1))), x9]] w11.drew (fun e w12 => ∃ (s13 : Sl), e = .returned s13 ∧ Kp w6 w11.drew w12 ∧
 ∃ n7, n7 < n1 ∧ I0 n7 ((IntKind.wrap .i64 (x3 + 1))) ((IntKind.wrap .i64 (x4 + x8))) s13 w12))
 (∃ n7, n7 < n1 ∧ I0 n7 ((IntKind.wrap .i64 (x3 + 1))) ((IntKind.wrap .i64 (x4 + x8))) s5 w11.drew))
 (R (.returned s5) w6)
theorem uD.vc {a0 a1 a2 w} (h : uD.pre a0 a1 a2 w R) : Calls Tryz.prog ly #[a0, a1, a2] w R :=
 cq ⟨[(4, ⟨[(15, .int .i64), (8, .int .i64), (7, .slice)], [], []⟩)], [], []⟩ Tryz.func227 h
def rI.pre (a0 a1 : Int) (w : World) (R : Ending → World → Prop) : Prop :=
 Calls Tryz.prog dC #[.slice none 0 0, .agg #[a0, a1]] w (fun e w0 => ∃ (s1 : Sl), e = .returned s1 ∧
 R (.returned s1) w0)
theorem rI.vc {a0 a1 w} (h : rI.pre a0 a1 w R) : Calls Tryz.prog ni #[a0, a1] w R :=
 cq ⟨[], [], []⟩ Tryz.func228 h
def nq.pre (a0 : Int) (w : World) (R : Ending → World → Prop) : Prop :=
 Br (decide (a0 < 0))
 (R (.returned (.slice none 0 0)) w)
 (Br (decide (a0 > 1048576))
 (R (.returned (.slice none 0 0)) w)
 (∃ I0 : Nat → Int → Sl → World → Prop,
 (∃ n1, I0 n1 a0 ⟨none, 0, 0⟩ w) ∧
 ∀ (n1 : Nat) (us2 : Nat → Value) (x3 : Int) (s4 : Sl) (w5 : World), I0 n1 x3 s4 w5 →
 Br (decide (x3 ≥ 128))
 (∀ w7 : World, w7 = w5.alloc (.cells #[.int .u8 (yD .u8 (IntKind.wrap .u8 x3) 128)] 5) →
 az 1 1 w7 s4 1 [.int .u8 (yD .u8 (IntKind.wrap .u8 x3) 128)] ∧ ∀ (s8 : Sl) (w9 : World), av 5 1 w7 s4 1 [.int .u8 (yD .u8 (IntKind.wrap .u8 x3) 128)] s8 w9 → Kp w5 w7 w9 ∧
 ∃ n6, n6 < n1 ∧ I0 n6 (((x3 : Int).fdiv (2 ^ (min (7 : Int).toNat 64)))) s8 w9)
 (∀ w10 : World, w10 = w5.alloc (.cells #[.int .u8 (IntKind.wrap .u8 x3)] 5) →
 az 1 1 w10 s4 1 [.int .u8 (IntKind.wrap .u8 x3)] ∧ ∀ (s11 : Sl) (w12 : World), av 5 1 w10 s4 1 [.int .u8 (IntKind.wrap .u8 x3)] s11 w12 → Kp w5 w10 w12 ∧
 R (.returned s11) w12)))
theorem nq.vc {a0 w} (h : nq.pre a0 w R) : Calls Tryz.prog j9 #[a0] w R :=
 cq ⟨[(4, ⟨[(0, .int .i64), (3, .slice)], [], []⟩)], [], []⟩ Tryz.func234 h
def gX.pre (a0 : Option Nat) (w : World) (R : Ending → World → Prop) : Prop :=
 Br (a0).isNone
 (R (.returned (.map none)) w)
 (Eu Tryz.prog 247 [.iface 259 (.map a0)] w (fun e w0 => ∃ (v1 : Value), e = .returned v1 ∧
 ∃ (m2 : Option Nat), (v1 : Value) = .iface 259 (.map m2) ∧
 R (.returned (.map m2)) w0))
theorem gX.vc {a0 w} (h : gX.pre a0 w R) : Calls Tryz.prog fh #[.map a0] w R :=
 cq ⟨[], [], []⟩ Tryz.func236 h
def lg.pre (a0 a1 a2 : Int) (c0 : Addr) (w : World) (R : Ending → World → Prop) : Prop :=
 ∃ (x0 : Int), ld w (some c0) = some (.int .i64 x0) ∧
 Calls Tryz.prog pc #[x0, a0, a1] w (fun e w1 => ∃ (x2 : Int), e = .returned (.int .u64 x2) ∧
 R (.returned ((IntKind.wrap .i64 ((IntKind.wrap .i64 (Int.tmod x2 9)) * a2)))) w1)
theorem lg.vc {a0 a1 a2 c0 w} (h : lg.pre a0 a1 a2 c0 w R) : Calls Tryz.prog cG #[a0, a1, a2, .pointer (some c0)] w R :=
 cq ⟨[], [], []⟩ Tryz.func238 h
def ql.pre (a0 a1 a2 : Int) (w : World) (R : Ending → World → Prop) : Prop :=
 R (.returned (.int .u64 (dt .u64 (IntKind.wrap .u64 ((dt .u64 (IntKind.wrap .u64 ((IntKind.wrap .u64 ((IntKind.wrap .u64 ((IntKind.wrap .u64 a0) * 11400714819323198485)) + (IntKind.wrap .u64 ((IntKind.wrap .u64 a1) * 14029467366897019727)))) + (IntKind.wrap .u64 ((IntKind.wrap .u64 a2) * 1609587929392839161)))) (((IntKind.wrap .u64 ((IntKind.wrap .u64 ((IntKind.wrap .u64 ((IntKind.wrap .u64 a0) * 11400714819323198485)) + (IntKind.wrap .u64 ((IntKind.wrap .u64 a1) * 14029467366897019727)))) + (IntKind.wrap .u64 ((IntKind.wrap .u64 a2) * 1609587929392839161)))) : Int).fdiv (2 ^ (min (29 : Int).toNat 64)))) * 13787848793156543929)) (((IntKind.wrap .u64 ((dt .u64 (IntKind.wrap .u64 ((IntKind.wrap .u64 ((IntKind.wrap .u64 ((IntKind.wrap .u64 a0) * 11400714819323198485)) + (IntKind.wrap .u64 ((IntKind.wrap .u64 a1) * 14029467366897019727)))) + (IntKind.wrap .u64 ((IntKind.wrap .u64 a2) * 1609587929392839161)))) (((IntKind.wrap .u64 ((IntKind.wrap .u64 ((IntKind.wrap .u64 ((IntKind.wrap .u64 a0) * 11400714819323198485)) + (IntKind.wrap .u64 ((IntKind.wrap .u64 a1) * 14029467366897019727)))) + (IntKind.wrap .u64 ((IntKind.wrap .u64 a2) * 1609587929392839161)))) : Int).fdiv (2 ^ (min (29 : Int).toNat 64)))) * 13787848793156543929)) : Int).fdiv (2 ^ (min (32 : Int).toNat 64)))))) w
theorem ql.vc {a0 a1 a2 w} (h : ql.pre a0 a1 a2 w R) : Calls Tryz.prog pc #[a0, a1, a2] w R :=
 cq ⟨[], [], []⟩ Tryz.func239 h
def lf.pre (a0 a1 a2 : Int) (w : World) (R : Ending → World → Prop) : Prop :=
 R (.returned (.int .u64 (dt .u64 (IntKind.wrap .u64 ((dt .u64 (IntKind.wrap .u64 ((IntKind.wrap .u64 ((IntKind.wrap .u64 ((IntKind.wrap .u64 a0) * 11400714819323198485)) + (IntKind.wrap .u64 ((IntKind.wrap .u64 a1) * 14029467366897019727)))) + (IntKind.wrap .u64 ((IntKind.wrap .u64 a2) * 1609587929392839161)))) (IntKind.wrap .u64 (Int.tdiv (IntKind.wrap .u64 ((IntKind.wrap .u64 ((IntKind.wrap .u64 ((IntKind.wrap .u64 a0) * 11400714819323198485)) + (IntKind.wrap .u64 ((IntKind.wrap .u64 a1) * 14029467366897019727)))) + (IntKind.wrap .u64 ((IntKind.wrap .u64 a2) * 1609587929392839161)))) 536870912))) * 13787848793156543929)) (IntKind.wrap .u64 (Int.tdiv (IntKind.wrap .u64 ((dt .u64 (IntKind.wrap .u64 ((IntKind.wrap .u64 ((IntKind.wrap .u64 ((IntKind.wrap .u64 a0) * 11400714819323198485)) + (IntKind.wrap .u64 ((IntKind.wrap .u64 a1) * 14029467366897019727)))) + (IntKind.wrap .u64 ((IntKind.wrap .u64 a2) * 1609587929392839161)))) (IntKind.wrap .u64 (Int.tdiv (IntKind.wrap .u64 ((IntKind.wrap .u64 ((IntKind.wrap .u64 ((IntKind.wrap .u64 a0) * 11400714819323198485)) + (IntKind.wrap .u64 ((IntKind.wrap .u64 a1) * 14029467366897019727)))) + (IntKind.wrap .u64 ((IntKind.wrap .u64 a2) * 1609587929392839161)))) 536870912))) * 13787848793156543929)) 4294967296))))) w
theorem lf.vc {a0 a1 a2 w} (h : lf.pre a0 a1 a2 w R) : Calls Tryz.prog dL #[a0, a1, a2] w R :=
 cq ⟨[], [], []⟩ Tryz.func241 h
def c9.pre (a0 : Int) (w : World) (R : Ending → World → Prop) : Prop :=
 Calls Tryz.prog gU #[a0, (10:Int)] w (fun e w0 => ∃ (t1 : ByteArray), e = .returned (.string t1) ∧
 R (.returned (.string t1)) w0)
theorem c9.vc {a0 w} (h : c9.pre a0 w R) : Calls Tryz.prog eS #[a0] w R :=
 cq ⟨[], [], []⟩ Tryz.func243 h
def bP.pre (a0 : Int) (w : World) (R : Ending → World → Prop) : Prop :=
 Br (decide (a0 < 10))
 ((0 : Int) ≤ (IntKind.wrap .i64 (a0 + 1)) ∧ (IntKind.wrap .i64 (a0 + 1)) ≤ ((((ByteArray.mk #[48, 49, 50, 51, 52, 53, 54, 55, 56, 57, 97, 98, 99, 100, 101, 102, 103, 104, 105, 106, 107, 108, 109, 110, 111, 112, 113, 114, 115, 116, 117, 118, 119, 120, 121, 122])).size : Nat) : Int) ∧ (0 : Int) ≤ a0 ∧ a0 ≤ (IntKind.wrap .i64 (a0 + 1)) ∧ R (.returned (.string (((ByteArray.mk #[48, 49, 50, 51, 52, 53, 54, 55, 56, 57, 97, 98, 99, 100, 101, 102, 103, 104, 105, 106, 107, 108, 109, 110, 111, 112, 113, 114, 115, 116, 117, 118, 119, 120, 121, 122])).extract ((a0 : Int).toNat) (((IntKind.wrap .i64 (a0 + 1)) : Int).toNat)))) w)
 ((0 : Int) ≤ (IntKind.wrap .i64 ((IntKind.wrap .i64 (a0 * 2)) + 2)) ∧ (IntKind.wrap .i64 ((IntKind.wrap .i64 (a0 * 2)) + 2)) ≤ ((((ByteArray.mk #[48, 48, 48, 49, 48, 50, 48, 51, 48, 52, 48, 53, 48, 54, 48, 55, 48, 56, 48, 57, 49, 48, 49, 49, 49, 50, 49, 51, 49, 52, 49, 53, 49, 54, 49, 55, 49, 56, 49, 57, 50, 48, 50, 49, 50, 50, 50, 51, 50, 52, 50, 53, 50, 54, 50, 55, 50, 56, 50, 57, 51, 48, 51, 49, 51, 50, 51, 51, 51, 52, 51, 53, 51, 54, 51, 55, 51, 56, 51, 57, 52, 48, 52, 49, 52, 50, 52, 51, 52, 52, 52, 53, 52, 54, 52, 55, 52, 56, 52, 57, 53, 48, 53, 49, 53, 50, 53, 51, 53, 52, 53, 53, 53, 54, 53, 55, 53, 56, 53, 57, 54, 48, 54, 49, 54, 50, 54, 51, 54, 52, 54, 53, 54, 54, 54, 55, 54, 56, 54, 57, 55, 48, 55, 49, 55, 50, 55, 51, 55, 52, 55, 53, 55, 54, 55, 55, 55, 56, 55, 57, 56, 48, 56, 49, 56, 50, 56, 51, 56, 52, 56, 53, 56, 54, 56, 55, 56, 56, 56, 57, 57, 48, 57, 49, 57, 50, 57, 51, 57, 52, 57, 53, 57, 54, 57, 55, 57, 56, 57, 57])).size : Nat) : Int) ∧ (0 : Int) ≤ (IntKind.wrap .i64 (a0 * 2)) ∧ ((IntKind.wrap .i64 (a0 * 2)) : Int) ≤ (IntKind.wrap .i64 ((IntKind.wrap .i64 (a0 * 2)) + 2)) ∧ R (.returned (.string (((ByteArray.mk #[48, 48, 48, 49, 48, 50, 48, 51, 48, 52, 48, 53, 48, 54, 48, 55, 48, 56, 48, 57, 49, 48, 49, 49, 49, 50, 49, 51, 49, 52, 49, 53, 49, 54, 49, 55, 49, 56, 49, 57, 50, 48, 50, 49, 50, 50, 50, 51, 50, 52, 50, 53, 50, 54, 50, 55, 50, 56, 50, 57, 51, 48, 51, 49, 51, 50, 51, 51, 51, 52, 51, 53, 51, 54, 51, 55, 51, 56, 51, 57, 52, 48, 52, 49, 52, 50, 52, 51, 52, 52, 52, 53, 52, 54, 52, 55, 52, 56, 52, 57, 53, 48, 53, 49, 53, 50, 53, 51, 53, 52, 53, 53, 53, 54, 53, 55, 53, 56, 53, 57, 54, 48, 54, 49, 54, 50, 54, 51, 54, 52, 54, 53, 54, 54, 54, 55, 54, 56, 54, 57, 55, 48, 55, 49, 55, 50, 55, 51, 55, 52, 55, 53, 55, 54, 55, 55, 55, 56, 55, 57, 56, 48, 56, 49, 56, 50, 56, 51, 56, 52, 56, 53, 56, 54, 56, 55, 56, 56, 56, 57, 57, 48, 57, 49, 57, 50, 57, 51, 57, 52, 57, 53, 57, 54, 57, 55, 57, 56, 57, 57])).extract (((IntKind.wrap .i64 (a0 * 2)) : Int).toNat) (((IntKind.wrap .i64 ((IntKind.wrap .i64 (a0 * 2)) + 2)) : Int).toNat)))) w)
theorem bP.vc {a0 w} (h : bP.pre a0 w R) : Calls Tryz.prog ef #[a0] w R :=
 cq ⟨[], [], []⟩ Tryz.func253 h
def gO.pre (a0 : Addr) (a1_0 a1_1 a1_2 a2 : Int) (w : World) (R : Ending → World → Prop) : Prop :=
 ∀ w0 : World, w0 = w.alloc (.cells #[a1_0, a1_1, a1_2] 23) →
 ∃ (p1 : Option Addr), ld w0.drew (ae (some a0) 0) = some (.pointer p1) ∧
 Calls Tryz.prog bc #[.pointer p1, .agg #[a1_0, a1_1, a1_2]] w0.drew (fun e w2 => ∃ (x3 : Int), e = .returned x3 ∧ Kp w w0.drew w2 ∧
 ∃ (p4 : Option Addr), ld w2.drew (ae (some a0) 0) = some (.pointer p4) ∧
 Calls Tryz.prog dn #[.pointer p4, .agg #[a1_0, a1_1, a1_2], a2] w2.drew (fun e w5 => ∃ (x6 : Int), e = .returned x6 ∧ Kp w w2.drew w5 ∧
 Br (x6 == 0)
 (Br (x3 != a2)
 (∃ (s7 : Sl), ld w5.drew (ae (some a0) 1) = some (.slice s7.a s7.n s7.c) ∧
 ∀ w8 : World, w8 = w5.drew.alloc (.cells #[a1_0, a1_1, a1_2, a2] 71) →
 az 32 4 w8 s7 1 [a1_0, a1_1, a1_2, a2] ∧ ∀ (s9 : Sl) (w10 : World), av 71 4 w8 s7 1 [a1_0, a1_1, a1_2, a2] s9 w10 → Kp w w8 w10 ∧ w10.heap[w5.drew.heap.size]? = w8.heap[w5.drew.heap.size]? ∧
 (true = true ∧ Wr w10 (ae (some a0) 1) 1) ∧ bD (ae (some a0) 1) ≠ some w.heap.size ∧ bD (ae (some a0) 1) ≠ some w5.drew.heap.size ∧ (∀ w11 : World, w11 = aA w10 (ae (some a0) 1) [s9] →
 R (.returned x6) w11))
 (R (.returned x6) w5))
 (R (.returned x6) w5)))
theorem gO.vc {a0 a1_0 a1_1 a1_2 a2 w} (h : gO.pre a0 a1_0 a1_1 a1_2 a2 w R) : Calls Tryz.prog jy #[.pointer (some a0), .agg #[a1_0, a1_1, a1_2], a2] w R :=
 cq ⟨[], [], []⟩ Tryz.func27 h
def qY.pre (a0 a1 a2 : Int) (w : World) (R : Ending → World → Prop) : Prop :=
 Calls Tryz.prog jI #[a0, a1, a2] w (fun e w0 => ∃ (p1 : Option Addr), e = .returned (.pointer p1) ∧
 ∀ w2 : World, w2 = w0.alloc (.cells #[.pointer p1, .slice none 0 0] 100) →
 R (.returned (.pointer (some ⟨w0, 0, none⟩))) w2)
theorem qY.vc {a0 a1 a2 w} (h : qY.pre a0 a1 a2 w R) : Calls Tryz.prog sG #[a0, a1, a2] w R :=
 cq ⟨[], [], []⟩ Tryz.func35 h
def eZ.pre (a0 : Addr) (w : World) (R : Ending → World → Prop) : Prop :=
 ∃ (p0 : Option Addr), ld w (ae (some a0) 0) = some (.pointer p0) ∧
 R (.returned (.pointer p0)) w
theorem eZ.vc {a0 w} (h : eZ.pre a0 w R) : Calls Tryz.prog ic #[.pointer (some a0)] w R :=
 cq ⟨[], [], []⟩ Tryz.func37 h
def fR.pre (a0 : Addr) (a1_0 a1_1 : Int) (w : World) (R : Ending → World → Prop) : Prop :=
 ∀ w0 : World, w0 = w.alloc (.cells #[a1_0, a1_1] 89) →
 Calls Tryz.prog lz #[.agg #[a1_0, a1_1]] w0 (fun e w1 => ∃ (x2 : Int) (b3 : Bool), e = .returned (.tuple #[x2, .bool b3]) ∧ Kp w w0 w1 ∧
 Br (!b3)
 (R (.returned (5:Int)) w1)
 (Calls Tryz.prog bX #[.pointer (some a0), .agg #[a1_0, a1_1]] w1 (fun e w4 => ∃ (x5 : Int), e = .returned x5 ∧ Kp w w1 w4 ∧
 Br (decide (x5 ≥ 0))
 (Calls Tryz.prog cB #[.pointer (some a0), x5] w4 (fun e w6 => ∃ (p7 : Option Addr), e = .returned (.pointer p7) ∧ Kp w w4 w6 ∧
 R (.returned (0:Int)) w6))
 (Calls Tryz.prog eG #[.pointer (some a0)] w4 (fun e w8 => ∃ (x9 : Int), e = .returned x9 ∧ Kp w w4 w8 ∧
 Br (x9 != 0)
 (R (.returned x9) w8)
 (∃ (p10 : Option Addr), ld w8 (ae (some a0) 0) = some (.pointer p10) ∧
 Calls Tryz.prog eH #[.pointer p10, x2] w8 (fun e w11 => ∃ (s12 : Sl) (x13 : Int) (b14 : Bool), e = .returned (.tuple #[s12, x13, .bool b14]) ∧ Kp w w8 w11 ∧
 Calls Tryz.prog lA #[.agg #[a1_0, a1_1], s12] w11 (fun e w15 => ∃ (p16 : Option Addr) (x17 : Int), e = .returned (.tuple #[.pointer p16, x17]) ∧ Kp w w11 w15 ∧
 Br (x17 != 0)
 (∃ (x18 : Int), ld w15.drew (ae (some a0) 1) = some (.int .i64 x18) ∧
 Calls Tryz.prog lB #[x18, .agg #[a1_0, a1_1]] w15.drew (fun e w19 => ∃ (p20 : Option Addr), e = .returned (.pointer p20) ∧ Kp w w15.drew w19 ∧
 ∃ (s21 : Sl), ld w19 (ae (some a0) 3) = some (.slice s21.a s21.n s21.c) ∧
 ∀ w22 : World, w22 = w19.alloc (.cells #[.pointer p20, .bool false, (0:Int)] 144) →
 ∀ w23 : World, w23 = w22.alloc (.cells #[.pointer (some ⟨w19, 0, none⟩)] 129) →
 az 8 1 w23 s21 1 [.pointer (some ⟨w19, 0, none⟩)] ∧ ∀ (s24 : Sl) (w25 : World), av 129 1 w23 s21 1 [.pointer (some ⟨w19, 0, none⟩)] s24 w25 → Kp w w23 w25 ∧ Kp w22 w23 w25 ∧
 (true = true ∧ Wr w25 (ae (some a0) 3) 1) ∧ bD (ae (some a0) 3) ≠ some w.heap.size ∧ bD (ae (some a0) 3) ≠ some w22.heap.size ∧ (∀ w26 : World, w26 = aA w25 (ae (some a0) 3) [s24] →
 R (.returned (0:Int)) w26)))
 (∃ (s27 : Sl), ld w15 (ae (some a0) 3) = some (.slice s27.a s27.n s27.c) ∧
 ∀ w28 : World, w28 = w15.alloc (.cells #[.pointer p16, .bool false, (0:Int)] 144) →
 ∀ w29 : World, w29 = w28.alloc (.cells #[.pointer (some ⟨w15, 0, none⟩)] 129) →
 az 8 1 w29 s27 1 [.pointer (some ⟨w15, 0, none⟩)] ∧ ∀ (s30 : Sl) (w31 : World), av 129 1 w29 s27 1 [.pointer (some ⟨w15, 0, none⟩)] s30 w31 → Kp w w29 w31 ∧ Kp w28 w29 w31 ∧
 (true = true ∧ Wr w31 (ae (some a0) 3) 1) ∧ bD (ae (some a0) 3) ≠ some w.heap.size ∧ bD (ae (some a0) 3) ≠ some w28.heap.size ∧ (∀ w32 : World, w32 = aA w31 (ae (some a0) 3) [s30] →
 R (.returned (0:Int)) w32))))))))))
theorem fR.vc {a0 a1_0 a1_1 w} (h : fR.pre a0 a1_0 a1_1 w R) : Calls Tryz.prog cQ #[.pointer (some a0), .agg #[a1_0, a1_1]] w R :=
 cq ⟨[], [], []⟩ Tryz.func38 h
def jc.pre (a0 : Addr) (a1_0 a1_1 a1_2 : Int) (w : World) (R : Ending → World → Prop) : Prop :=
 ∀ w0 : World, w0 = w.alloc (.cells #[a1_0, a1_1, a1_2] 23) →
 Calls Tryz.prog dK #[.agg #[a1_0, a1_1, a1_2]] w0 (fun e w1 => ∃ (x2 x3 : Int), e = .returned (.agg #[x2, x3]) ∧ Kp w w0 w1 ∧
 Calls Tryz.prog bX #[.pointer (some a0), .agg #[x2, x3]] w1 (fun e w4 => ∃ (x5 : Int), e = .returned x5 ∧ Kp w w1 w4 ∧
 Br (decide (x5 < 0))
 (R (.returned (.int .i64 (-1))) w4)
 (Br (decide (a1_1 < 0))
 (R (.returned (1:Int)) w4)
 (∃ (s6 : Sl), ld w4.drew (ae (some a0) 3) = some (.slice s6.a s6.n s6.c) ∧
 cn s6.a x5 s6.n ∧ ∃ (p7 : Option Addr), ld w4.drew (ae s6.a ((x5 : Int).toNat * 1)) = some (.pointer p7) ∧
 aV (ik p7) (aV (ik p7) (∃ (p8 : Option Addr), ld w4.drew (ae p7 0) = some (.pointer p8) ∧
 Calls Tryz.prog dO #[.pointer p8, .agg #[a1_0, a1_1, a1_2]] w4.drew (fun e w9 => ∃ (x10 : Int) (CF : Bool), e = .returned (.tuple #[x10, .bool CF]) ∧ Kp w w4.drew w9 ∧
 aj w9 (ae s6.a ((x5 : Int).toNat * 1)) 0 [.pointer p7] ∧ aj w9 (ae (some a0) 3) 0 [s6] ∧ R (.returned x10) w9)))))))
theorem jc.vc {a0 a1_0 a1_1 a1_2 w} (h : jc.pre a0 a1_0 a1_1 a1_2 w R) : Calls Tryz.prog bc #[.pointer (some a0), .agg #[a1_0, a1_1, a1_2]] w R :=
 cq ⟨[], [], []⟩ Tryz.func43 h
def q9.pre (a0 a1 : Int) (w : World) (R : Ending → World → Prop) : Prop :=
 Br (decide (a1 < 1))
 (R (.returned (0:Int)) w)
 (aV (FV a1) (Br (decide (((Int.tmod a0 a1) : Int) < 0))
 (R (.returned ((IntKind.wrap .i64 ((Int.tmod a0 a1) + a1)))) w)
 (R (.returned (.int .i64 (Int.tmod a0 a1))) w)))
theorem q9.vc {a0 a1 w} (h : q9.pre a0 a1 w R) : Calls Tryz.prog jC #[a0, a1] w R :=
 cq ⟨[], [], []⟩ Tryz.func44 h
def gY.pre (a0 : Addr) (a1_0 a1_1 a1_2 a2 : Int) (w : World) (R : Ending → World → Prop) : Prop :=
 ∀ w0 : World, w0 = w.alloc (.cells #[a1_0, a1_1, a1_2] 23) →
 Calls Tryz.prog dK #[.agg #[a1_0, a1_1, a1_2]] w0 (fun e w1 => ∃ (x2 x3 : Int), e = .returned (.agg #[x2, x3]) ∧ Kp w w0 w1 ∧
 Calls Tryz.prog bX #[.pointer (some a0), .agg #[x2, x3]] w1 (fun e w4 => ∃ (x5 : Int), e = .returned x5 ∧ Kp w w1 w4 ∧
 Calls Tryz.prog iu #[.agg #[a1_0, a1_1, a1_2]] w4 (fun e w6 => ∃ (x7 : Int) (b8 : Bool), e = .returned (.tuple #[x7, .bool b8]) ∧ Kp w w4 w6 ∧
 Br (decide (x5 < 0))
 (R (.returned (11:Int)) w6)
 (Br (!b8)
 (R (.returned (5:Int)) w6)
 (Calls Tryz.prog dB #[a2] w6 (fun e w9 => ∃ (b10 : Bool), e = .returned (.bool b10) ∧ Kp w w6 w9 ∧
 Br (!b10)
 (R (.returned (1:Int)) w9)
 (Calls Tryz.prog cB #[.pointer (some a0), x5] w9 (fun e w11 => ∃ (p12 : Option Addr), e = .returned (.pointer p12) ∧ Kp w w9 w11 ∧
 aV (ik p12) (aV (ik p12) (∃ (p13 : Option Addr), ld w11.drew (ae p12 0) = some (.pointer p13) ∧
 Calls Tryz.prog dO #[.pointer p13, .agg #[a1_0, a1_1, a1_2]] w11.drew (fun e w14 => ∃ (x15 : Int) (b16 : Bool), e = .returned (.tuple #[x15, .bool b16]) ∧ Kp w w11.drew w14 ∧
 aV (ik p12) (aV (ik p12) (∃ (b17 : Bool), ld w14 (ae p12 1) = some (.bool b17) ∧
 Br b17
 (aV (ik p12) (aV (ik p12) ((((ae p12 1)).isSome = true ∧ Wr w14 (ae p12 1) 1) ∧ bD (ae p12 1) ≠ some w.heap.size ∧ (∀ w18 : World, w18 = aA w14 (ae p12 1) [.bool true] →
 aV (ik p12) (aV (ik p12) (∃ (p19 : Option Addr), ld w18.drew (ae p12 0) = some (.pointer p19) ∧
 Calls Tryz.prog dj #[.pointer p19, .agg #[a1_0, a1_1, a1_2], a2] w18.drew (fun e w20 => ∃ (x21 : Int), e = .returned x21 ∧ Kp w w18.drew w20 ∧
 R (.returned x21) w20)))))))
 (aV (ik p12) (aV (ik p12) ((((ae p12 1)).isSome = true ∧ Wr w14 (ae p12 1) 1) ∧ bD (ae p12 1) ≠ some w.heap.size ∧ (∀ w22 : World, w22 = aA w14 (ae p12 1) [.bool (x15 != a2)] →
 aV (ik p12) (aV (ik p12) (∃ (p23 : Option Addr), ld w22.drew (ae p12 0) = some (.pointer p23) ∧
 Calls Tryz.prog dj #[.pointer p23, .agg #[a1_0, a1_1, a1_2], a2] w22.drew (fun e w24 => ∃ (x25 : Int), e = .returned x25 ∧ Kp w w22.drew w24 ∧
 R (.returned x25) w24))))))))))))))))))))
theorem gY.vc {a0 a1_0 a1_1 a1_2 a2 w} (h : gY.pre a0 a1_0 a1_1 a1_2 a2 w R) : Calls Tryz.prog dn #[.pointer (some a0), .agg #[a1_0, a1_1, a1_2], a2] w R :=
 cq ⟨[], [], []⟩ Tryz.func59 h
def rJ.pre (a0 a1 a2 : Int) (w : World) (R : Ending → World → Prop) : Prop :=
 Calls Tryz.prog mV #[a2] w (fun e w0 => ∃ (p1 : Option Addr), e = .returned (.pointer p1) ∧
 ∀ w2 : World, w2 = w0.alloc (.cells #[.pointer p1, a0, .int .i64 (if 16 < (if 1 > a1 then 1 else a1) then 16 else (if 1 > a1 then 1 else a1)), .slice none 0 0] 137) →
 R (.returned (.pointer (some ⟨w0, 0, none⟩))) w2)
theorem rJ.vc {a0 a1 a2 w} (h : rJ.pre a0 a1 a2 w R) : Calls Tryz.prog jI #[a0, a1, a2] w R :=
 cq ⟨[], [], []⟩ Tryz.func67 h
def uE.pre (a0_0 a0_1 : Int) (w : World) (R : Ending → World → Prop) : Prop :=
 ∀ w0 : World, w0 = w.alloc (.cells #[a0_0, a0_1] 89) →
 Br (decide (a0_0 < (-524288)))
 (R (.returned (.tuple #[(0:Int), .bool false])) w0)
 (Br (decide (a0_0 ≥ 524288))
 (R (.returned (.tuple #[(0:Int), .bool false])) w0)
 (Br (decide (a0_1 < (-524288)))
 (R (.returned (.tuple #[(0:Int), .bool false])) w0)
 (Br (decide (a0_1 ≥ 524288))
 (R (.returned (.tuple #[(0:Int), .bool false])) w0)
 (R (.returned (.tuple #[(IntKind.wrap .i64 ((IntKind.wrap .i64 ((IntKind.wrap .i64 ((IntKind.wrap .i64 ((IntKind.wrap .i64 ((IntKind.wrap .i64 (a0_0 + 524288)) * 2)) * 524288)) + a0_1)) + 524288)) + 1)), .bool true])) w0))))
theorem uE.vc {a0_0 a0_1 w} (h : uE.pre a0_0 a0_1 w R) : Calls Tryz.prog lz #[.agg #[a0_0, a0_1]] w R :=
 cq ⟨[], [], []⟩ Tryz.func69 h
def fS.pre (a0 : Addr) (a1_0 a1_1 : Int) (w : World) (R : Ending → World → Prop) : Prop :=
 ∀ w0 : World, w0 = w.alloc (.cells #[a1_0, a1_1] 89) →
 ∃ (s1 : Sl), ld w0 (ae (some a0) 3) = some (.slice s1.a s1.n s1.c) ∧
 Calls Tryz.prog bF #[s1, .func (.func 114) #[] #[.pointer (some ⟨w, 0, none⟩)]] w0 (fun e w2 => ∃ (x3 : Int), e = .returned x3 ∧
 R (.returned x3) w2)
theorem fS.vc {a0 a1_0 a1_1 w} (h : fS.pre a0 a1_0 a1_1 w R) : Calls Tryz.prog bX #[.pointer (some a0), .agg #[a1_0, a1_1]] w R :=
 cq ⟨[], [], []⟩ Tryz.func70 h
def fm.pre (a0 : Addr) (a1 : Int) (w : World) (R : Ending → World → Prop) : Prop :=
 Calls Tryz.prog dm #[.pointer (some a0), a1] w (fun e w0 => ∃ (p1 : Option Addr), e = .returned (.pointer p1) ∧
 ∃ (s2 : Sl), ld w0 (ae (some a0) 3) = some (.slice s2.a s2.n s2.c) ∧
 ∀ w3 : World, w3 = w0.alloc (.cells #[.pointer p1] 129) →
 az 8 1 w3 s2 1 [.pointer p1] ∧ ∀ (s4 : Sl) (w5 : World), av 129 1 w3 s2 1 [.pointer p1] s4 w5 → Kp w0 w3 w5 ∧
 (true = true ∧ Wr w5 (ae (some a0) 3) 1) ∧ bD (ae (some a0) 3) ≠ some w0.heap.size ∧ (∀ w6 : World, w6 = aA w5 (ae (some a0) 3) [s4] →
 R (.returned (.pointer p1)) w6))
theorem fm.vc {a0 a1 w} (h : fm.pre a0 a1 w R) : Calls Tryz.prog cB #[.pointer (some a0), a1] w R :=
 cq ⟨[], [], []⟩ Tryz.func71 h
def fT.pre (a0 : Addr) (w : World) (R : Ending → World → Prop) : Prop :=
 ∃ (s0 : Sl), ld w.drew (ae (some a0) 3) = some (.slice s0.a s0.n s0.c) ∧
 ∃ (x1 : Int), ld w.drew (ae (some a0) 2) = some (.int .i64 x1) ∧
 Br (decide ((((s0.n : Nat) : Int) : Int) < x1))
 (R (.returned (0:Int)) w.drew)
 (∃ (s2 : Sl), ld w.drew (ae (some a0) 3) = some (.slice s2.a s2.n s2.c) ∧
 Calls Tryz.prog bF #[s2, .func (.func 116) #[] #[]] w.drew (fun e w3 => ∃ (x4 : Int), e = .returned x4 ∧
 Br (decide (x4 < 0))
 (R (.returned (8:Int)) w3)
 (∃ (s5 : Sl), ld w3 (ae (some a0) 3) = some (.slice s5.a s5.n s5.c) ∧
 cn s5.a x4 s5.n ∧ ∃ (p6 : Option Addr), ld w3 (ae s5.a ((x4 : Int).toNat * 1)) = some (.pointer p6) ∧
 Calls Tryz.prog eF #[.pointer (some a0), .pointer p6] w3 (fun e w7 => ∃ (x8 : Int), e = .returned x8 ∧
 Br (x8 == 0)
 (Calls Tryz.prog dm #[.pointer (some a0), x4] w7 (fun e w9 => ∃ (p10 : Option Addr), e = .returned (.pointer p10) ∧
 R (.returned x8) w9))
 (R (.returned x8) w7)))))
theorem fT.vc {a0 w} (h : fT.pre a0 w R) : Calls Tryz.prog eG #[.pointer (some a0)] w R :=
 cq ⟨[], [], []⟩ Tryz.func72 h
def fU.pre (a0 : Addr) (a1 : Int) (w : World) (R : Ending → World → Prop) : Prop :=
 Calls Tryz.prog mY #[a1] w (fun e w0 => ∃ (b1 : Bool), e = .returned (.bool b1) ∧
 Br (!b1)
 (R (.returned (.tuple #[.slice none 0 0, (0:Int), .bool false])) w0)
 (Calls Tryz.prog kE #[.pointer (some a0), a1] w0 (fun e w2 => ∃ (x3 x4 : Int) (s5 : Sl), e = .returned (.agg #[x3, x4, s5]) ∧
 ∀ w6 : World, w6 = w2.alloc (.cells #[(0:Int), (0:Int), .slice none 0 0] 186) →
 ∀ w7 : World, w7 = w6.setRow w2 #[x3, x4, s5] →
 R (.returned (.tuple #[s5, x4, .bool (decide (x4 > 0))])) w7.drew)))
theorem fU.vc {a0 a1 w} (h : fU.pre a0 a1 w R) : Calls Tryz.prog eH #[.pointer (some a0), a1] w R :=
 cq ⟨[], [], []⟩ Tryz.func73 h
def pz.pre (a0_0 a0_1 : Int) (a1 : Sl) (w : World) (R : Ending → World → Prop) : Prop :=
 ∀ w0 : World, w0 = w.alloc (.cells #[a0_0, a0_1] 89) →
 Calls Tryz.prog mZ #[a1, (8192:Int)] w0 (fun e w1 => ∃ (s2 : Sl) (x3 : Int), e = .returned (.tuple #[s2, x3]) ∧ Kp w w0 w1 ∧
 Br (x3 != 0)
 (R (.returned (.tuple #[.pointer none, x3])) w1)
 (Calls Tryz.prog m7 #[.agg #[a0_0, a0_1], s2] w1 (fun e w4 => ∃ (p5 : Option Addr) (x6 : Int), e = .returned (.tuple #[.pointer p5, x6]) ∧ Kp w w1 w4 ∧
 R (.returned (.tuple #[.pointer p5, x6])) w4)))
theorem pz.vc {a0_0 a0_1 a1 w} (h : pz.pre a0_0 a0_1 a1 w R) : Calls Tryz.prog lA #[.agg #[a0_0, a0_1], a1] w R :=
 cq ⟨[], [], []⟩ Tryz.func74 h
def pA.pre (a0 a1_0 a1_1 : Int) (w : World) (R : Ending → World → Prop) : Prop :=
 ∀ w0 : World, w0 = w.alloc (.cells #[a1_0, a1_1] 89) →
 (Calls Tryz.prog jF #[a0, .agg #[a1_0, a1_1]] w0.drew (fun e w1 => ∃ (s2 : Sl), e = .returned s2 ∧ Kp w w0.drew w1 ∧
 ∀ w3 : World, w3 = w1.alloc (.cells #[a1_0, a1_1, s2] 183) →
 R (.returned (.pointer (some ⟨w1, 0, none⟩))) w3)) ∧ (Calls Tryz.prog jF #[a0, .agg #[a1_0, a1_1]] w0.drew (fun e w4 => ∃ (s5 : Sl), e = .returned s5 ∧ Kp w w0.drew w4 ∧
 aj w4 (some ⟨w, 0, none⟩) 0 [a1_0, a1_1] ∧ ∀ w6 : World, w6 = w4.alloc (.cells #[a1_0, a1_1, s5] 183) →
 R (.returned (.pointer (some ⟨w4, 0, none⟩))) w6))
theorem pA.vc {a0 a1_0 a1_1 w} (h : pA.pre a0 a1_0 a1_1 w R) : Calls Tryz.prog lB #[a0, .agg #[a1_0, a1_1]] w R :=
 cq ⟨[], [], []⟩ Tryz.func75 h
def uF.pre (a0_0 a0_1 : Int) (w : World) (R : Ending → World → Prop) : Prop :=
 ∀ w0 : World, w0 = w.alloc (.cells #[a0_0, a0_1] 89) →
 Br (decide (a0_0 < (-524288)))
 (R (.returned (0:Int)) w0)
 (Br (decide (a0_0 > 524287))
 (R (.returned (0:Int)) w0)
 (Br (decide (a0_1 < (-524288)))
 (R (.returned (0:Int)) w0)
 (Br (decide (a0_1 > 524287))
 (R (.returned (0:Int)) w0)
 (R (.returned ((IntKind.wrap .i64 ((IntKind.wrap .i64 ((IntKind.wrap .i64 ((IntKind.wrap .i64 (a0_0 + 524288)) * 1048576)) + (IntKind.wrap .i64 (a0_1 + 524288)))) + 1)))) w0))))
theorem uF.vc {a0_0 a0_1 w} (h : uF.pre a0_0 a0_1 w R) : Calls Tryz.prog uy #[.agg #[a0_0, a0_1]] w R :=
 cq ⟨[], [], []⟩ Tryz.func76 h
def pB.pre (a0_0 a0_1 : Int) (a1 : Sl) (w : World) (R : Ending → World → Prop) : Prop :=
 ∀ w0 : World, w0 = w.alloc (.cells #[a0_0, a0_1] 89) →
 ∀ w1 : World, w1 = w0.alloc (.cells #[(0:Int), (0:Int), .slice none 0 0] 108) →
 Calls Tryz.prog lr #[a1, (8192:Int)] w1 (fun e w2 => ∃ (s3 : Sl) (x4 : Int), e = .returned (.tuple #[s3, x4]) ∧ Kp w w1 w2 ∧ Kp w0 w1 w2 ∧
 Br (x4 != 0)
 (∀ w5 : World, w5 = w2.setRow w0 #[(0:Int), (0:Int), .slice none 0 0] →
 R (.returned (.tuple #[.agg #[(0:Int), (0:Int), .slice none 0 0], x4])) w5)
 (∀ w6 : World, w6 = w2.setRow w0 #[a0_0, a0_1, s3] →
 R (.returned (.tuple #[.agg #[a0_0, a0_1, s3], (0:Int)])) w6))
theorem pB.vc {a0_0 a0_1 a1 w} (h : pB.pre a0_0 a0_1 a1 w R) : Calls Tryz.prog qq #[.agg #[a0_0, a0_1], a1] w R :=
 cq ⟨[], [], []⟩ Tryz.func81 h
def pC.pre (a0 a1_0 a1_1 : Int) (w : World) (R : Ending → World → Prop) : Prop :=
 ∀ w0 : World, w0 = w.alloc (.cells #[a1_0, a1_1] 89) →
 ∀ w1 : World, w1 = w0.alloc (.cells #[(0:Int), (0:Int), .slice none 0 0] 108) →
 Calls Tryz.prog j6 #[a0, .agg #[a1_0, a1_1]] w1.drew (fun e w2 => ∃ (s3 : Sl), e = .returned s3 ∧ Kp w w1.drew w2 ∧ Kp w0 w1.drew w2 ∧
 aj w2 (some ⟨w, 0, none⟩) 0 [a1_0, a1_1] ∧ ∀ w4 : World, w4 = w2.setRow w0 #[a1_0, a1_1, s3] →
 R (.returned (.agg #[a1_0, a1_1, s3])) w4)
theorem pC.vc {a0 a1_0 a1_1 w} (h : pC.pre a0 a1_0 a1_1 w R) : Calls Tryz.prog qt #[a0, .agg #[a1_0, a1_1]] w R :=
 cq ⟨[], [], []⟩ Tryz.func82 h
def oX.pre (a0_0 a0_1 a0_2 : Int) (w : World) (R : Ending → World → Prop) : Prop :=
 ∀ w0 : World, w0 = w.alloc (.cells #[a0_0, a0_1, a0_2] 23) →
 ∀ w1 : World, w1 = w0.alloc (.cells #[(0:Int), (0:Int)] 89) →
 Calls Tryz.prog fH #[a0_0, (16:Int)] w1.drew (fun e w2 => ∃ (x3 : Int), e = .returned x3 ∧ Kp w w1.drew w2 ∧ Kp w0 w1.drew w2 ∧
 aj w2 (some ⟨w, 2, none⟩) 0 [a0_2] ∧ Calls Tryz.prog fH #[a0_2, (16:Int)] w2 (fun e w4 => ∃ (x5 : Int), e = .returned x5 ∧ Kp w w2 w4 ∧ Kp w0 w2 w4 ∧
 ∀ w6 : World, w6 = w4.setRow w0 #[x3, x5] →
 R (.returned (.agg #[x3, x5])) w6))
theorem oX.vc {a0_0 a0_1 a0_2 w} (h : oX.pre a0_0 a0_1 a0_2 w R) : Calls Tryz.prog dK #[.agg #[a0_0, a0_1, a0_2]] w R :=
 cq ⟨[], [], []⟩ Tryz.func85 h
def jd.pre (a0 : Addr) (a1_0 a1_1 a1_2 : Int) (w : World) (R : Ending → World → Prop) : Prop :=
 ∀ w0 : World, w0 = w.alloc (.cells #[a1_0, a1_1, a1_2] 23) →
 ∃ (x1 x2 : Int), aj w0.drew (ae (some a0) 0) 0 [x1, x2] ∧
 Calls Tryz.prog cA #[.agg #[x1, x2], .agg #[a1_0, a1_1, a1_2]] w0.drew (fun e w3 => ∃ (x4 : Int) (b5 : Bool), e = .returned (.tuple #[x4, .bool b5]) ∧ Kp w w0.drew w3 ∧
 Br (!b5)
 (R (.returned (.tuple #[(0:Int), .bool false])) w3)
 (∃ (s6 : Sl), ld w3 (ae (some a0) 2) = some (.slice s6.a s6.n s6.c) ∧
 Calls Tryz.prog rp #[s6, x4] w3 (fun e w7 => ∃ (x8 : Int), e = .returned x8 ∧ Kp w w3 w7 ∧
 R (.returned (.tuple #[x8, .bool true])) w7)))
theorem jd.vc {a0 a1_0 a1_1 a1_2 w} (h : jd.pre a0 a1_0 a1_1 a1_2 w R) : Calls Tryz.prog dO #[.pointer (some a0), .agg #[a1_0, a1_1, a1_2]] w R :=
 cq ⟨[], [], []⟩ Tryz.func86 h
def fa.pre (a0 : Addr) (a1_0 a1_1 a1_2 : Int) (w : World) (R : Ending → World → Prop) : Prop :=
 ∀ w0 : World, w0 = w.alloc (.cells #[a1_0, a1_1, a1_2] 23) →
 ∃ (p1 : Option Addr), ld w0 (ae (some a0) 0) = some (.pointer p1) ∧
 Calls Tryz.prog cP #[.pointer p1] w0 (fun e w2 => ∃ (s3 : Sl), e = .returned s3 ∧ Kp w w0 w2 ∧
 Calls Tryz.prog dK #[.agg #[a1_0, a1_1, a1_2]] w2 (fun e w4 => ∃ (x5 x6 : Int), e = .returned (.agg #[x5, x6]) ∧ Kp w w2 w4 ∧
 Calls Tryz.prog jW #[.agg #[x5, x6]] w4 (fun e w7 => ∃ (x8 x9 x10 x11 x12 x13 x14 x15 x16 x17 : Int), e = .returned (.agg #[x8, x9, x10, x11, x12, x13, x14, x15, x16, x17]) ∧ Kp w w4 w7 ∧
 ∃ I18 : Nat → Int → World → Prop,
 (∃ n19, a6 [a1_0, a1_1, a1_2] ∧ I18 n19 (0) w7) ∧
 ∀ (n19 : Nat) (us20 : Nat → Value) (x21 : Int) (w22 : World), I18 n19 x21 w22 →
 Br (decide (x21 < 5))
 (((0 : Int) ≤ x21 ∧ x21 < ((5 : Nat) : Int)) ∧ ∃ (x24 x25 : Int), (([x8, x9, x10, x11, x12, x13, x14, x15, x16, x17] : List Value).drop ((x21 : Int).toNat * 2)).take 2 = [.int .i64 x24, .int .i64 x25] ∧
 ∀ w26 : World, w26 = w22.alloc (.cells #[(0:Int), (0:Int)] 89) →
 ∀ w27 : World, w27 = w26.setRow w22 #[x24, x25] →
 Calls Tryz.prog c5 #[s3, .agg #[x24, x25]] w27 (fun e w28 => ∃ (b29 : Bool), e = .returned (.bool b29) ∧ Kp w w27 w28 ∧ Kp w22 w27 w28 ∧
 Br (!b29)
 (R (.returned (.bool false)) w28)
 (∃ n23, n23 < n19 ∧ a6 [a1_0, a1_1, a1_2] ∧ I18 n23 ((IntKind.wrap .i64 (x21 + 1))) w28)))
 (R (.returned (.bool true)) w22))))
theorem fa.vc {a0 a1_0 a1_1 a1_2 w} (h : fa.pre a0 a1_0 a1_1 a1_2 w R) : Calls Tryz.prog ie #[.pointer (some a0), .agg #[a1_0, a1_1, a1_2]] w R :=
 cq ⟨[(3, ⟨[(16, .int .i64)], [], []⟩)], [], []⟩ Tryz.func91 h
def nr.pre (a0 : Int) (w : World) (R : Ending → World → Prop) : Prop :=
 R (.returned (.bool (a0 == 3))) w
theorem nr.vc {a0 w} (h : nr.pre a0 w R) : Calls Tryz.prog oJ #[a0] w R :=
 cq ⟨[], [], []⟩ Tryz.func94 h
def ra.pre (a0 a1 : Int) (w : World) (R : Ending → World → Prop) : Prop :=
 Br (decide (a1 < 1))
 (R (.returned (0:Int)) w)
 (Calls Tryz.prog mL #[a0, a1] w (fun e w0 => ∃ (x1 : Int), e = .returned x1 ∧
 R (.returned x1) w0))
theorem ra.vc {a0 a1 w} (h : ra.pre a0 a1 w R) : Calls Tryz.prog bS #[a0, a1] w R :=
 cq ⟨[], [], []⟩ Tryz.func96 h
end Go.Proofs.YtalpkjfpmdpbiaaGreatDoor
