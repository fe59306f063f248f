import Derived.Test.YtalpkjfpmdpbiaaGreatDoorGQ
set_option linter.all false
namespace Go.Proofs.YtalpkjfpmdpbiaaGreatDoor
open Go Go.Vc Go.RowKit Go.Proofs
set_option maxRecDepth 100000
set_option maxHeartbeats 8000000
variable {R:Ending->World->Prop}
set_option linter.unusedVariables false
abbrev pf:FuncId:=142
abbrev dz:FuncId:=143
abbrev dA:FuncId:=93
abbrev bT:FuncId:=141
abbrev iz:FuncId:=89
abbrev qn:FuncId:=186
abbrev mO:FuncId:=92
abbrev lk:FuncId:=87
abbrev j4:FuncId:=188
abbrev mR:FuncId:=138
abbrev xR:FuncId:=139
abbrev wD:FuncId:=40
abbrev sO:FuncId:=83
abbrev l9:FuncId:=10
abbrev kB:FuncId:=17
abbrev iU:FuncId:=14
abbrev iV:FuncId:=45
abbrev bU:FuncId:=95
abbrev fN:FuncId:=47
abbrev iW:FuncId:=15
abbrev oG:FuncId:=16
def uw.pre (a0_0 a0_1 a0_2 : Int) (w : World) (R : Ending → World → Prop) : Prop :=
 ∀ w0 : World, w0 = w.alloc (.cells #[a0_0, a0_1, a0_2] 23) →
 ∀ w1 : World, w1 = w0.alloc (.cells #[(0:Int), (0:Int), (0:Int)] 23) →
 Calls Tryz.prog dz #[a0_0] w1.drew (fun e w2 => ∃ (x3 : Int), e = .returned x3 ∧ Kp w w1.drew w2 ∧ Kp w0 w1.drew w2 ∧
 aj w2 (some ⟨w, 2, none⟩) 0 [a0_2] ∧ aj w2 (some ⟨w, 1, none⟩) 0 [a0_1] ∧ Calls Tryz.prog dz #[a0_1] w2 (fun e w4 => ∃ (x5 : Int), e = .returned x5 ∧ Kp w w2 w4 ∧ Kp w0 w2 w4 ∧
 aj w4 (some ⟨w, 2, none⟩) 0 [a0_2] ∧ Calls Tryz.prog dz #[a0_2] w4 (fun e w6 => ∃ (x7 : Int), e = .returned x7 ∧ Kp w w4 w6 ∧ Kp w0 w4 w6 ∧
 ∀ w8 : World, w8 = w6.setRow w0 #[x3, x5, x7] →
 R (.returned (.agg #[x3, x5, x7])) w8)))
theorem uw.vc {a0_0 a0_1 a0_2 w} (h : uw.pre a0_0 a0_1 a0_2 w R) : Calls Tryz.prog pf #[.agg #[a0_0, a0_1, a0_2]] w R :=
 cq ⟨[], [], []⟩ Tryz.func142 h
def qo.pre (a0 : Int) (w : World) (R : Ending → World → Prop) : Prop :=
 R (.returned (.int .i64 (if 2147483648 < (if (-2147483648) > a0 then (-2147483648) else a0) then 2147483648 else (if (-2147483648) > a0 then (-2147483648) else a0)))) w
theorem qo.vc {a0 w} (h : qo.pre a0 w R) : Calls Tryz.prog dz #[a0] w R :=
 cq ⟨[], [], []⟩ Tryz.func143 h
def rk.pre (a0_0 a0_1 a0_2 : Int) (w : World) (R : Ending → World → Prop) : Prop :=
 ∀ w0 : World, w0 = w.alloc (.cells #[a0_0, a0_1, a0_2] 23) →
 ∀ w1 : World, w1 = w0.alloc (.cells #[(0:Int), (0:Int), (0:Int), (0:Int), (0:Int), (0:Int), (0:Int), (0:Int), (0:Int), (0:Int), (0:Int), (0:Int), (0:Int), (0:Int), (0:Int), (0:Int), (0:Int), (0:Int)] 161) →
 Calls Tryz.prog bT #[.int .i64 (-1), (0:Int), (0:Int), .pointer (some ⟨w, 0, none⟩)] w1 (fun e w2 => ∃ (x3 x4 x5 : Int), e = .returned (.agg #[x3, x4, x5]) ∧
 Calls Tryz.prog bT #[(1:Int), (0:Int), (0:Int), .pointer (some ⟨w, 0, none⟩)] w2 (fun e w6 => ∃ (x7 x8 x9 : Int), e = .returned (.agg #[x7, x8, x9]) ∧
 Calls Tryz.prog bT #[(0:Int), .int .i64 (-1), (0:Int), .pointer (some ⟨w, 0, none⟩)] w6 (fun e w10 => ∃ (x11 x12 x13 : Int), e = .returned (.agg #[x11, x12, x13]) ∧
 Calls Tryz.prog bT #[(0:Int), (1:Int), (0:Int), .pointer (some ⟨w, 0, none⟩)] w10 (fun e w14 => ∃ (x15 x16 x17 : Int), e = .returned (.agg #[x15, x16, x17]) ∧
 Calls Tryz.prog bT #[(0:Int), (0:Int), .int .i64 (-1), .pointer (some ⟨w, 0, none⟩)] w14 (fun e w18 => ∃ (x19 x20 x21 : Int), e = .returned (.agg #[x19, x20, x21]) ∧
 Calls Tryz.prog bT #[(0:Int), (0:Int), (1:Int), .pointer (some ⟨w, 0, none⟩)] w18 (fun e w22 => ∃ (x23 x24 x25 : Int), e = .returned (.agg #[x23, x24, x25]) ∧
 (true = true ∧ Wr w22 (some ⟨w0, 0, none⟩) 18) ∧ (∀ w26 : World, w26 = aA w22 (some ⟨w0, 0, none⟩) [x3, x4, x5, x7, x8, x9, x11, x12, x13, x15, x16, x17, x19, x20, x21, x23, x24, x25] →
 ∃ (x27 x28 x29 x30 x31 x32 x33 x34 x35 x36 x37 x38 x39 x40 x41 x42 x43 x44 : Int), aj w26 (some ⟨w0, 0, none⟩) 0 [x27, x28, x29, x30, x31, x32, x33, x34, x35, x36, x37, x38, x39, x40, x41, x42, x43, x44] ∧
 R (.returned (.agg #[x27, x28, x29, x30, x31, x32, x33, x34, x35, x36, x37, x38, x39, x40, x41, x42, x43, x44])) w26)))))))
theorem rk.vc {a0_0 a0_1 a0_2 w} (h : rk.pre a0_0 a0_1 a0_2 w R) : Calls Tryz.prog dA #[.agg #[a0_0, a0_1, a0_2]] w R :=
 cq ⟨[], [], []⟩ Tryz.func93 h
def mS.pre (a0 a1 a2 : Int) (c0 : Addr) (w : World) (R : Ending → World → Prop) : Prop :=
 ∀ w0 : World, w0 = w.alloc (.cells #[(0:Int), (0:Int), (0:Int)] 23) →
 ∃ (x1 : Int), ld w0.drew (ae (some c0) 0) = some (.int .i64 x1) ∧
 ∃ (x2 : Int), ld w0.drew (ae (some c0) 1) = some (.int .i64 x2) ∧
 ∃ (x3 : Int), ld w0.drew (ae (some c0) 2) = some (.int .i64 x3) ∧
 Calls Tryz.prog dz #[x1] w0.drew (fun e w4 => ∃ (x5 : Int), e = .returned x5 ∧ Kp w w0.drew w4 ∧
 aj w4 (ae (some c0) 2) 0 [x3] ∧ aj w4 (ae (some c0) 1) 0 [x2] ∧ Calls Tryz.prog dz #[x2] w4 (fun e w6 => ∃ (x7 : Int), e = .returned x7 ∧ Kp w w4 w6 ∧
 aj w6 (ae (some c0) 2) 0 [x3] ∧ Calls Tryz.prog dz #[x3] w6 (fun e w8 => ∃ (x9 : Int), e = .returned x9 ∧ Kp w w6 w8 ∧
 Calls Tryz.prog pf #[.agg #[(IntKind.wrap .i64 (x5 + a0)), (IntKind.wrap .i64 (x7 + a1)), (IntKind.wrap .i64 (x9 + a2))]] w8 (fun e w10 => ∃ (x11 x12 x13 : Int), e = .returned (.agg #[x11, x12, x13]) ∧ Kp w w8 w10 ∧
 ∀ w14 : World, w14 = w10.setRow w #[x11, x12, x13] →
 R (.returned (.agg #[x11, x12, x13])) w14))))
theorem mS.vc {a0 a1 a2 c0 w} (h : mS.pre a0 a1 a2 c0 w R) : Calls Tryz.prog bT #[a0, a1, a2, .pointer (some c0)] w R :=
 cq ⟨[], [], []⟩ Tryz.func141 h
def pg.pre (a0 : Int) (w : World) (R : Ending → World → Prop) : Prop :=
 Calls Tryz.prog 94 #[a0] w (fun e w0 => ∃ (b1 : Bool), e = .returned (.bool b1) ∧
 Br b1
 (R (.returned (2:Int)) w0)
 (Calls Tryz.prog 134 #[a0] w0 (fun e w2 => ∃ (b3 : Bool), e = .returned (.bool b3) ∧
 Br b3
 (R (.returned (5:Int)) w2)
 (R (.returned (0:Int)) w2))))
theorem pg.vc {a0 w} (h : pg.pre a0 w R) : Calls Tryz.prog iz #[a0] w R :=
 cq ⟨[], [], []⟩ Tryz.func89 h
def ph.pre (a0 : Value) (a1_0 a1_1 a1_2 : Int) (w : World) (R : Ending → World → Prop) : Prop :=
 ∀ w0 : World, w0 = w.alloc (.cells #[a1_0, a1_1, a1_2] 23) →
 Calls Tryz.prog dA #[.agg #[a1_0, a1_1, a1_2]] w0 (fun e w1 => ∃ (x2 x3 x4 x5 x6 x7 x8 x9 x10 x11 x12 x13 x14 x15 x16 x17 x18 x19 : Int), e = .returned (.agg #[x2, x3, x4, x5, x6, x7, x8, x9, x10, x11, x12, x13, x14, x15, x16, x17, x18, x19]) ∧ Kp w w0 w1 ∧
 ((0 : Int) ≤ 3 ∧ (3 : Int) < ((6 : Nat) : Int)) ∧ ∃ (x20 x21 x22 : Int), (([x2, x3, x4, x5, x6, x7, x8, x9, x10, x11, x12, x13, x14, x15, x16, x17, x18, x19] : List Value).drop ((3 : Int).toNat * 3)).take 3 = [.int .i64 x20, .int .i64 x21, .int .i64 x22] ∧
 a8 Tryz.prog a0 [.agg #[x20, x21, x22]] w1 (fun e w23 => ∃ (x24 : Int), e = .returned x24 ∧ Kp w w1 w23 ∧
 Calls Tryz.prog 134 #[x24] w23 (fun e w25 => ∃ (b26 : Bool), e = .returned (.bool b26) ∧ Kp w w23 w25 ∧
 Br b26
 (R (.returned (.tuple #[(1:Int), .bool true])) w25)
 (Calls Tryz.prog j4 #[.agg #[a1_0, a1_1, a1_2]] w25 (fun e w27 => ∃ (s28 : Sl), e = .returned s28 ∧ Kp w w25 w27 ∧
 ∃ I29 : Nat → Int → Int → World → Prop,
 (∃ n30, a6 [a1_0, a1_1, a1_2] ∧ I29 n30 (0) (7) w27) ∧
 ∀ (n30 : Nat) (us31 : Nat → Value) (x32 x33 : Int) (w34 : World), I29 n30 x32 x33 w34 →
 Br (decide (x32 < ((s28.n : Nat) : Int)))
 (cn s28.a x32 s28.n ∧ ∃ (x36 x37 x38 : Int), aj w34 (ae s28.a ((x32 : Int).toNat * 3)) 0 [x36, x37, x38] ∧
 ∀ w39 : World, w39 = w34.alloc (.cells #[(0:Int), (0:Int), (0:Int)] 23) →
 ∀ w40 : World, w40 = w39.setRow w34 #[x36, x37, x38] →
 a8 Tryz.prog a0 [.agg #[x36, x37, x38]] w40 (fun e w41 => ∃ (x42 : Int), e = .returned x42 ∧ Kp w w40 w41 ∧ Kp w34 w40 w41 ∧
 Calls Tryz.prog 140 #[x42] w41 (fun e w43 => ∃ (x44 : Int), e = .returned x44 ∧ Kp w w41 w43 ∧ Kp w34 w41 w43 ∧
 Br (decide (x44 ≥ 0))
 (∃ n35, n35 < n30 ∧ a6 [a1_0, a1_1, a1_2] ∧ I29 n35 ((IntKind.wrap .i64 (x32 + 1))) ((if x44 < x33 then x44 else x33)) w43)
 (∃ n35, n35 < n30 ∧ a6 [a1_0, a1_1, a1_2] ∧ I29 n35 ((IntKind.wrap .i64 (x32 + 1))) x33 w43))))
 (Br (x33 == 7)
 (R (.returned (.tuple #[(0:Int), .bool false])) w34)
 (R (.returned (.tuple #[(IntKind.wrap .i64 (x33 + 1)), .bool true])) w34)))))))
theorem ph.vc {a0 a1_0 a1_1 a1_2 w} (h : ph.pre a0 a1_0 a1_1 a1_2 w R) : Calls Tryz.prog qn #[a0, .agg #[a1_0, a1_1, a1_2]] w R :=
 cq ⟨[(5, ⟨[(19, .int .i64), (6, .int .i64)], [], []⟩)], [], []⟩ Tryz.func186 h
def rf.pre (a0 : Value) (a1_0 a1_1 a1_2 : Int) (w : World) (R : Ending → World → Prop) : Prop :=
 ∀ w0 : World, w0 = w.alloc (.cells #[a1_0, a1_1, a1_2] 23) →
 a8 Tryz.prog a0 [.agg #[a1_0, a1_1, a1_2]] w0 (fun e w1 => ∃ (x2 : Int), e = .returned x2 ∧ Kp w w0 w1 ∧
 Calls Tryz.prog 94 #[x2] w1 (fun e w3 => ∃ (b4 : Bool), e = .returned (.bool b4) ∧ Kp w w1 w3 ∧
 Br b4
 (Calls Tryz.prog mR #[a0, .agg #[a1_0, a1_1, a1_2]] w3 (fun e w5 => ∃ (s6 : Sl), e = .returned s6 ∧ Kp w w3 w5 ∧
 R (.returned s6) w5))
 (Calls Tryz.prog 134 #[x2] w3 (fun e w7 => ∃ (b8 : Bool), e = .returned (.bool b8) ∧ Kp w w3 w7 ∧
 Br b8
 (Calls Tryz.prog 140 #[x2] w7.drew (fun e w9 => ∃ (x10 : Int), e = .returned x10 ∧ Kp w w7.drew w9 ∧
 aj w9 (some ⟨w, 0, none⟩) 0 [a1_0, a1_1, a1_2] ∧ Calls Tryz.prog xR #[a0, .agg #[a1_0, a1_1, a1_2], x10] w9 (fun e w11 => ∃ (s12 : Sl), e = .returned s12 ∧ Kp w w9 w11 ∧
 R (.returned s12) w11)))
 (R (.returned (.slice none 0 0)) w7)))))
theorem rf.vc {a0 a1_0 a1_1 a1_2 w} (h : rf.pre a0 a1_0 a1_1 a1_2 w R) : Calls Tryz.prog mO #[a0, .agg #[a1_0, a1_1, a1_2]] w R :=
 cq ⟨[], [], []⟩ Tryz.func92 h
def pj.pre (a0 : Value) (a1_0 a1_1 a1_2 : Int) (w : World) (R : Ending → World → Prop) : Prop :=
 ∀ w0 : World, w0 = w.alloc (.cells #[a1_0, a1_1, a1_2] 23) →
 Calls Tryz.prog dA #[.agg #[a1_0, a1_1, a1_2]] w0 (fun e w1 => ∃ (x2 x3 x4 x5 x6 x7 x8 x9 x10 x11 x12 x13 x14 x15 x16 x17 x18 x19 : Int), e = .returned (.agg #[x2, x3, x4, x5, x6, x7, x8, x9, x10, x11, x12, x13, x14, x15, x16, x17, x18, x19]) ∧ Kp w w0 w1 ∧
 ∀ w20 : World, w20 = w1.alloc (.cells #[(0:Int), (0:Int), (0:Int), (0:Int), (0:Int), (0:Int), (0:Int), (0:Int), (0:Int), (0:Int), (0:Int), (0:Int), (0:Int), (0:Int), (0:Int), (0:Int), (0:Int), (0:Int)] 161) →
 (true = true ∧ Wr w20 (some ⟨w1, 0, none⟩) 18) ∧ bD (some ⟨w1, 0, none⟩) ≠ some w.heap.size ∧ (∀ w21 : World, w21 = aA w20 (some ⟨w1, 0, none⟩) [x2, x3, x4, x5, x6, x7, x8, x9, x10, x11, x12, x13, x14, x15, x16, x17, x18, x19] →
 ∀ w22 : World, w22 = w21.drew.alloc (.cells #[a1_0, a1_1, a1_2] 23) →
 ∃ l23 : List Value, Rd w22 (ai (some ⟨w1, 0, none⟩) (0) (6) 3) l23 ∧ az 24 3 w22 ⟨(some ⟨w21.drew.heap.size, 0, none⟩), 1, 1⟩ (6 - 0) l23 ∧ ∀ (s24 : Sl) (w25 : World), av 23 3 w22 ⟨(some ⟨w21.drew.heap.size, 0, none⟩), 1, 1⟩ (6 - 0) l23 s24 w25 → Kp w w22 w25 ∧ w25.heap[w21.drew.heap.size]? = w22.heap[w21.drew.heap.size]? ∧
 ∃ I26 : Nat → Int → Sl → World → Prop,
 (∃ n27, a6 [a1_0, a1_1, a1_2] ∧ a6 [a1_0, a1_1, a1_2] ∧ I26 n27 (0) ⟨none, 0, 0⟩ w25) ∧
 ∀ (n27 : Nat) (us28 : Nat → Value) (x29 : Int) (s30 : Sl) (w31 : World), I26 n27 x29 s30 w31 →
 Br (decide (x29 < ((s24.n : Nat) : Int)))
 (cn s24.a x29 s24.n ∧ ∃ (x33 x34 x35 : Int), aj w31 (ae s24.a ((x29 : Int).toNat * 3)) 0 [x33, x34, x35] ∧
 ∀ w36 : World, w36 = w31.alloc (.cells #[(0:Int), (0:Int), (0:Int)] 23) →
 ∀ w37 : World, w37 = w36.setRow w31 #[x33, x34, x35] →
 a8 Tryz.prog a0 [.agg #[x33, x34, x35]] w37 (fun e w38 => ∃ (x39 : Int), e = .returned x39 ∧ Kp w w37 w38 ∧ w38.heap[w21.drew.heap.size]? = w37.heap[w21.drew.heap.size]? ∧ Kp w31 w37 w38 ∧
 Calls Tryz.prog iz #[x39] w38 (fun e w40 => ∃ (x41 : Int), e = .returned x41 ∧ Kp w w38 w40 ∧ w40.heap[w21.drew.heap.size]? = w38.heap[w21.drew.heap.size]? ∧ Kp w31 w38 w40 ∧
 Br (decide (x41 > 0))
 (∀ w42 : World, w42 = w40.alloc (.cells #[x33, x34, x35] 23) →
 az 24 3 w42 s30 1 [x33, x34, x35] ∧ ∀ (s43 : Sl) (w44 : World), av 23 3 w42 s30 1 [x33, x34, x35] s43 w44 → Kp w w42 w44 ∧ w44.heap[w21.drew.heap.size]? = w42.heap[w21.drew.heap.size]? ∧ Kp w31 w42 w44 ∧ Kp w40 w42 w44 ∧
 ∃ n32, n32 < n27 ∧ a6 [a1_0, a1_1, a1_2] ∧ a6 [a1_0, a1_1, a1_2] ∧ I26 n32 ((IntKind.wrap .i64 (x29 + 1))) s43 w44)
 (∃ n32, n32 < n27 ∧ a6 [a1_0, a1_1, a1_2] ∧ a6 [a1_0, a1_1, a1_2] ∧ I26 n32 ((IntKind.wrap .i64 (x29 + 1))) s30 w40))))
 (R (.returned s30) w31)))
theorem pj.vc {a0 a1_0 a1_1 a1_2 w} (h : pj.pre a0 a1_0 a1_1 a1_2 w R) : Calls Tryz.prog lk #[a0, .agg #[a1_0, a1_1, a1_2]] w R :=
 cq ⟨[(4, ⟨[(16, .int .i64), (5, .slice)], [], []⟩)], [], []⟩ Tryz.func87 h
def mT.pre (a0_0 a0_1 a0_2 : Int) (w : World) (R : Ending → World → Prop) : Prop :=
 ∀ w0 : World, w0 = w.alloc (.cells #[a0_0, a0_1, a0_2] 23) →
 Calls Tryz.prog dA #[.agg #[a0_0, a0_1, a0_2]] w0 (fun e w1 => ∃ (x2 x3 x4 x5 x6 x7 x8 x9 x10 x11 x12 x13 x14 x15 x16 x17 x18 x19 : Int), e = .returned (.agg #[x2, x3, x4, x5, x6, x7, x8, x9, x10, x11, x12, x13, x14, x15, x16, x17, x18, x19]) ∧ Kp w w0 w1 ∧
 ∀ w20 : World, w20 = w1.alloc (.cells #[(0:Int), (0:Int), (0:Int), (0:Int), (0:Int), (0:Int), (0:Int), (0:Int), (0:Int), (0:Int), (0:Int), (0:Int), (0:Int), (0:Int), (0:Int), (0:Int), (0:Int), (0:Int)] 161) →
 (true = true ∧ Wr w20 (some ⟨w1, 0, none⟩) 18) ∧ bD (some ⟨w1, 0, none⟩) ≠ some w.heap.size ∧ (∀ w21 : World, w21 = aA w20 (some ⟨w1, 0, none⟩) [x2, x3, x4, x5, x6, x7, x8, x9, x10, x11, x12, x13, x14, x15, x16, x17, x18, x19] →
 (0 : Int) ≤ 2 ∧ 2 ≤ ((6 : Nat) : Int) ∧ (0 : Int) ≤ 2 ∧ (2 : Int) ≤ 2 ∧ (0 : Int) ≤ 4 ∧ 4 ≤ ((6 : Nat) : Int) ∧ ∃ l22 : List Value, Rd w21.drew (ai (some ⟨w1, 0, none⟩) ((4 : Int).toNat) (6) 3) l22 ∧ az 24 3 w21.drew ⟨(ai (some ⟨w1, 0, none⟩) (0) ((2 : Int).toNat) 3), ((2 : Int).toNat - 0), ((2 : Int).toNat - 0)⟩ (6 - (4 : Int).toNat) l22 ∧ ∀ (s23 : Sl) (w24 : World), av 23 3 w21.drew ⟨(ai (some ⟨w1, 0, none⟩) (0) ((2 : Int).toNat) 3), ((2 : Int).toNat - 0), ((2 : Int).toNat - 0)⟩ (6 - (4 : Int).toNat) l22 s23 w24 → Kp w w21.drew w24 ∧
 R (.returned s23) w24))
theorem mT.vc {a0_0 a0_1 a0_2 w} (h : mT.pre a0_0 a0_1 a0_2 w R) : Calls Tryz.prog j4 #[.agg #[a0_0, a0_1, a0_2]] w R :=
 cq ⟨[], [], []⟩ Tryz.func188 h
def rn.pre (a0 : Value) (a1_0 a1_1 a1_2 : Int) (w : World) (R : Ending → World → Prop) : Prop :=
 ∀ w0 : World, w0 = w.alloc (.cells #[a1_0, a1_1, a1_2] 23) →
 Calls Tryz.prog dA #[.agg #[a1_0, a1_1, a1_2]] w0 (fun e w1 => ∃ (x2 x3 x4 x5 x6 x7 x8 x9 x10 x11 x12 x13 x14 x15 x16 x17 x18 x19 : Int), e = .returned (.agg #[x2, x3, x4, x5, x6, x7, x8, x9, x10, x11, x12, x13, x14, x15, x16, x17, x18, x19]) ∧ Kp w w0 w1 ∧
 ((0 : Int) ≤ 2 ∧ (2 : Int) < ((6 : Nat) : Int)) ∧ ∃ (x20 x21 x22 : Int), (([x2, x3, x4, x5, x6, x7, x8, x9, x10, x11, x12, x13, x14, x15, x16, x17, x18, x19] : List Value).drop ((2 : Int).toNat * 3)).take 3 = [.int .i64 x20, .int .i64 x21, .int .i64 x22] ∧
 ∀ w23 : World, w23 = w1.alloc (.cells #[(0:Int), (0:Int), (0:Int)] 23) →
 ∀ w24 : World, w24 = w23.setRow w1 #[x20, x21, x22] →
 a8 Tryz.prog a0 [.agg #[x20, x21, x22]] w24 (fun e w25 => ∃ (x26 : Int), e = .returned x26 ∧ Kp w w24 w25 ∧ Kp w1 w24 w25 ∧
 Calls Tryz.prog 185 #[x26] w25 (fun e w27 => ∃ (b28 : Bool), e = .returned (.bool b28) ∧ Kp w w25 w27 ∧ Kp w1 w25 w27 ∧
 Br (!b28)
 (R (.returned (.slice none 0 0)) w27)
 (∀ w29 : World, w29 = w27.alloc (.cells #[a1_0, a1_1, a1_2, x26, x20, x21, x22, (3:Int)] 71) →
 R (.returned (.slice (some ⟨w27, 0, none⟩) 2 2)) w29))))
theorem rn.vc {a0 a1_0 a1_1 a1_2 w} (h : rn.pre a0 a1_0 a1_1 a1_2 w R) : Calls Tryz.prog mR #[a0, .agg #[a1_0, a1_1, a1_2]] w R :=
 cq ⟨[], [], []⟩ Tryz.func138 h
def xS.pre (a0 : Addr) (a1 : Int) (w : World) (R : Ending → World → Prop) : Prop :=
 Calls Tryz.prog 60 #[(4096:Int)] w (fun e w0 => ∃ (p1 : Option Addr), e = .returned (.pointer p1) ∧
 ∀ w2 : World, w2 = w0.alloc (.cells #[.pointer p1, .pointer (some a0), .int .i64 (if 64 < (if 1 > a1 then 1 else a1) then 64 else (if 1 > a1 then 1 else a1)), (0:Int), .func (.func 83) #[] #[], .slice none 0 0] 98) →
 R (.returned (.pointer (some ⟨w0, 0, none⟩))) w2)
theorem xS.vc {a0 a1 w} (h : xS.pre a0 a1 w R) : Calls Tryz.prog wD #[.pointer (some a0), a1] w R :=
 cq ⟨[], [], []⟩ Tryz.func40 h
def j5.pre (a0 : Addr) (w : World) (R : Ending → World → Prop) : Prop :=
 ∃ (p0 : Option Addr), ld w (ae (some a0) 1) = some (.pointer p0) ∧
 R (.returned (.pointer p0)) w
theorem j5.vc {a0 w} (h : j5.pre a0 w R) : Calls Tryz.prog l9 #[.pointer (some a0)] w R :=
 cq ⟨[], [], []⟩ Tryz.func10 h
def iX.pre (a0 : Addr) (f1 : Fn) (p1 q1 : Array Value) (w : World) (R : Ending → World → Prop) : Prop :=
 ((true = true ∧ Wr w (ae (some a0) 4) 1) ∧ (∀ w0 : World, w0 = aA w (ae (some a0) 4) [.func f1 p1 q1] →
 R (.returned (.tuple #[])) w0))
theorem iX.vc {a0 f1 p1 q1 w} (h : iX.pre a0 f1 p1 q1 w R) : Calls Tryz.prog kB #[.pointer (some a0), .func f1 p1 q1] w R :=
 cq ⟨[], [], []⟩ Tryz.func17 h
def ln.pre (a0 : Addr) (a1_0 a1_1 a1_2 a2 : Int) (w : World) (R : Ending → World → Prop) : Prop :=
 ∀ w0 : World, w0 = w.alloc (.cells #[a1_0, a1_1, a1_2] 23) →
 ∃ (p1 : Option Addr), ld w0.drew (ae (some a0) 1) = some (.pointer p1) ∧
 Calls Tryz.prog 27 #[.pointer p1, .agg #[a1_0, a1_1, a1_2], a2] w0.drew (fun e w2 => ∃ (x3 : Int), e = .returned x3 ∧ Kp w w0.drew w2 ∧
 Br (x3 == 0)
 (Calls Tryz.prog iV #[.pointer (some a0), .agg #[a1_0, a1_1, a1_2]] w2 (fun e w4 => e = .returned (.tuple #[]) ∧ Kp w w2 w4 ∧
 R (.returned x3) w4))
 (R (.returned x3) w2))
theorem ln.vc {a0 a1_0 a1_1 a1_2 a2 w} (h : ln.pre a0 a1_0 a1_1 a1_2 a2 w R) : Calls Tryz.prog iU #[.pointer (some a0), .agg #[a1_0, a1_1, a1_2], a2] w R :=
 cq ⟨[], [], []⟩ Tryz.func14 h
def lp.pre (a0 : Addr) (a1_0 a1_1 a1_2 : Int) (w : World) (R : Ending → World → Prop) : Prop :=
 ∀ w0 : World, w0 = w.alloc (.cells #[a1_0, a1_1, a1_2] 23) →
 ∃ (p1 : Option Addr), ld w0 (ae (some a0) 1) = some (.pointer p1) ∧
 Calls Tryz.prog 11 #[.pointer p1] w0 (fun e w2 => ∃ (v3 : Value), e = .returned v3 ∧ Kp w w0 w2 ∧
 Calls Tryz.prog lk #[v3, .agg #[a1_0, a1_1, a1_2]] w2 (fun e w4 => ∃ (s5 : Sl), e = .returned s5 ∧ Kp w w2 w4 ∧
 ∃ I6 : Nat → Int → World → Prop,
 (∃ n7, a6 [a1_0, a1_1, a1_2] ∧ I6 n7 (0) w4) ∧
 ∀ (n7 : Nat) (us8 : Nat → Value) (x9 : Int) (w10 : World), I6 n7 x9 w10 →
 Br (decide (x9 < ((s5.n : Nat) : Int)))
 (cn s5.a x9 s5.n ∧ ∃ (x12 x13 x14 : Int), aj w10 (ae s5.a ((x9 : Int).toNat * 3)) 0 [x12, x13, x14] ∧
 ∀ w15 : World, w15 = w10.alloc (.cells #[(0:Int), (0:Int), (0:Int)] 23) →
 ∀ w16 : World, w16 = w15.setRow w10 #[x12, x13, x14] →
 ∃ (p17 : Option Addr), ld w16.drew (ae (some a0) 0) = some (.pointer p17) ∧
 ∃ (x18 : Int), ld w16.drew (ae (some a0) 3) = some (.int .i64 x18) ∧
 a8 Tryz.prog v3 [.agg #[x12, x13, x14]] w16.drew (fun e w19 => ∃ (x20 : Int), e = .returned x20 ∧ Kp w w16.drew w19 ∧ Kp w10 w16.drew w19 ∧
 aj w19 (ae (some a0) 3) 0 [x18] ∧ aj w19 (some ⟨w10, 0, none⟩) 0 [x12, x13, x14] ∧ aj w19 (ae (some a0) 0) 0 [.pointer p17] ∧ Calls Tryz.prog iz #[x20] w19 (fun e w21 => ∃ (x22 : Int), e = .returned x22 ∧ Kp w w19 w21 ∧ Kp w10 w19 w21 ∧
 aj w21 (ae (some a0) 3) 0 [x18] ∧ aj w21 (some ⟨w10, 0, none⟩) 0 [x12, x13, x14] ∧ aj w21 (ae (some a0) 0) 0 [.pointer p17] ∧ Calls Tryz.prog 88 #[.pointer p17, .agg #[x12, x13, x14], (IntKind.wrap .i64 (x18 + x22))] w21 (fun e w23 => ∃ (b24 : Bool), e = .returned (.bool b24) ∧ Kp w w21 w23 ∧ Kp w10 w21 w23 ∧
 aj w23 (ae (some a0) 3) 0 [x18] ∧ ∃ n11, n11 < n7 ∧ a6 [a1_0, a1_1, a1_2] ∧ I6 n11 ((IntKind.wrap .i64 (x9 + 1))) w23))))
 (R (.returned (.tuple #[])) w10)))
theorem lp.vc {a0 a1_0 a1_1 a1_2 w} (h : lp.pre a0 a1_0 a1_1 a1_2 w R) : Calls Tryz.prog iV #[.pointer (some a0), .agg #[a1_0, a1_1, a1_2]] w R :=
 cq ⟨[(3, ⟨[(16, .int .i64)], [], []⟩)], [], []⟩ Tryz.func45 h
def iY.pre (a0 : Addr) (a1_0 a1_1 a1_2 a1_3 : Int) (w : World) (R : Ending → World → Prop) : Prop :=
 ∀ w0 : World, w0 = w.alloc (.cells #[a1_0, a1_1, a1_2, a1_3] 71) →
 ∃ (p1 : Option Addr), ld w0.drew (ae (some a0) 1) = some (.pointer p1) ∧
 Calls Tryz.prog 11 #[.pointer p1] w0.drew (fun e w2 => ∃ (v3 : Value), e = .returned v3 ∧ Kp w w0.drew w2 ∧
 aj w2 (some ⟨w, 3, none⟩) 0 [a1_3] ∧ aj w2 (some ⟨w, 0, none⟩) 0 [a1_0, a1_1, a1_2] ∧ a8 Tryz.prog v3 [.agg #[a1_0, a1_1, a1_2]] w2 (fun e w4 => ∃ (x5 : Int), e = .returned x5 ∧ Kp w w2 w4 ∧
 aj w4 (some ⟨w, 3, none⟩) 0 [a1_3] ∧ Br (x5 != a1_3)
 (Calls Tryz.prog iU #[.pointer (some a0), .agg #[a1_0, a1_1, a1_2], a1_3] w4 (fun e w6 => ∃ (x7 : Int), e = .returned x7 ∧ Kp w w4 w6 ∧
 R (.returned (.tuple #[])) w6))
 (R (.returned (.tuple #[])) w4)))
theorem iY.vc {a0 a1_0 a1_1 a1_2 a1_3 w} (h : iY.pre a0 a1_0 a1_1 a1_2 a1_3 w R) : Calls Tryz.prog bU #[.pointer (some a0), .agg #[a1_0, a1_1, a1_2, a1_3]] w R :=
 cq ⟨[], [], []⟩ Tryz.func95 h
def iZ.pre (a0 : Addr) (a1_0 a1_1 a1_2 : Int) (w : World) (R : Ending → World → Prop) : Prop :=
 ∀ w0 : World, w0 = w.alloc (.cells #[a1_0, a1_1, a1_2] 23) →
 ∃ (p1 : Option Addr), ld w0.drew (ae (some a0) 1) = some (.pointer p1) ∧
 Calls Tryz.prog 91 #[.pointer p1, .agg #[a1_0, a1_1, a1_2]] w0.drew (fun e w2 => ∃ (b3 : Bool), e = .returned (.bool b3) ∧ Kp w w0.drew w2 ∧
 Br (!b3)
 (∃ (p4 : Option Addr), ld w2.drew (ae (some a0) 0) = some (.pointer p4) ∧
 ∃ (x5 : Int), ld w2.drew (ae (some a0) 3) = some (.int .i64 x5) ∧
 Calls Tryz.prog 88 #[.pointer p4, .agg #[a1_0, a1_1, a1_2], (IntKind.wrap .i64 (x5 + 1))] w2.drew (fun e w6 => ∃ (b7 : Bool), e = .returned (.bool b7) ∧ Kp w w2.drew w6 ∧
 aj w6 (ae (some a0) 3) 0 [x5] ∧ R (.returned (.tuple #[])) w6))
 (∃ (p8 : Option Addr), ld w2 (ae (some a0) 1) = some (.pointer p8) ∧
 Calls Tryz.prog 11 #[.pointer p8] w2 (fun e w9 => ∃ (v10 : Value), e = .returned v10 ∧ Kp w w2 w9 ∧
 Calls Tryz.prog mO #[v10, .agg #[a1_0, a1_1, a1_2]] w9 (fun e w11 => ∃ (s12 : Sl), e = .returned s12 ∧ Kp w w9 w11 ∧
 Calls Tryz.prog dA #[.agg #[a1_0, a1_1, a1_2]] w11 (fun e w13 => ∃ (x14 x15 x16 x17 x18 x19 x20 x21 x22 x23 x24 x25 x26 x27 x28 x29 x30 x31 : Int), e = .returned (.agg #[x14, x15, x16, x17, x18, x19, x20, x21, x22, x23, x24, x25, x26, x27, x28, x29, x30, x31]) ∧ Kp w w11 w13 ∧
 ((0 : Int) ≤ 2 ∧ (2 : Int) < ((6 : Nat) : Int)) ∧ ∃ (x32 x33 x34 : Int), (([x14, x15, x16, x17, x18, x19, x20, x21, x22, x23, x24, x25, x26, x27, x28, x29, x30, x31] : List Value).drop ((2 : Int).toNat * 3)).take 3 = [.int .i64 x32, .int .i64 x33, .int .i64 x34] ∧
 ∀ w35 : World, w35 = w13.alloc (.cells #[(0:Int), (0:Int), (0:Int)] 23) →
 ∀ w36 : World, w36 = w35.setRow w13 #[x32, x33, x34] →
 a8 Tryz.prog v10 [.agg #[a1_0, a1_1, a1_2]] w36.drew (fun e w37 => ∃ (x38 : Int), e = .returned x38 ∧ Kp w w36.drew w37 ∧ Kp w13 w36.drew w37 ∧
 Calls Tryz.prog 94 #[x38] w37 (fun e w39 => ∃ (b40 : Bool), e = .returned (.bool b40) ∧ Kp w w37 w39 ∧ Kp w13 w37 w39 ∧
 Br b40
 (Br (decide ((((s12.n : Nat) : Int) : Int) > 0))
 (∃ (v41 : Value), ld w39 (ae (some a0) 4) = some (v41) ∧
 a8 Tryz.prog v41 [.agg #[x32, x33, x34]] w39 (fun e w42 => ∃ (b43 : Bool), e = .returned (.bool b43) ∧ Kp w w39 w42 ∧ Kp w13 w39 w42 ∧
 Br b43
 (∀ w44 : World, w44 = w42.alloc (.cells #[a1_0, a1_1, a1_2, (0:Int)] 71) →
 ∃ (s45 : Sl), ld w44.drew (ae (some a0) 5) = some (.slice s45.a s45.n s45.c) ∧
 ∀ w46 : World, w46 = w44.drew.alloc (.cells #[x32, x33, x34] 23) →
 az 24 3 w46 s45 1 [x32, x33, x34] ∧ ∀ (s47 : Sl) (w48 : World), av 23 3 w46 s45 1 [x32, x33, x34] s47 w48 → Kp w w46 w48 ∧ Kp w13 w46 w48 ∧ Kp w42 w46 w48 ∧ w48.heap[w44.drew.heap.size]? = w46.heap[w44.drew.heap.size]? ∧
 (true = true ∧ Wr w48 (ae (some a0) 5) 1) ∧ bD (ae (some a0) 5) ≠ some w.heap.size ∧ bD (ae (some a0) 5) ≠ some w13.heap.size ∧ bD (ae (some a0) 5) ≠ some w42.heap.size ∧ bD (ae (some a0) 5) ≠ some w44.drew.heap.size ∧ (∀ w49 : World, w49 = aA w48 (ae (some a0) 5) [s47] →
 ∃ I50 : Nat → Int → World → Prop,
 (∃ n51, a6 [a1_0, a1_1, a1_2] ∧ a6 [x32, x33, x34] ∧ a6 [a1_0, a1_1, a1_2, (0:Int)] ∧ a6 [x32, x33, x34] ∧ I50 n51 (0) w49) ∧
 ∀ (n51 : Nat) (us52 : Nat → Value) (x53 : Int) (w54 : World), I50 n51 x53 w54 →
 Br (decide (x53 < ((1 : Nat) : Int)))
 (cn (some ⟨w42, 0, none⟩) x53 1 ∧ ∃ (x56 x57 x58 x59 : Int), aj w54 (ae (some ⟨w42, 0, none⟩) ((x53 : Int).toNat * 4)) 0 [x56, x57, x58, x59] ∧
 ∀ w60 : World, w60 = w54.alloc (.cells #[(0:Int), (0:Int), (0:Int), (0:Int)] 71) →
 ∀ w61 : World, w61 = w60.setRow w54 #[x56, x57, x58, x59] →
 Calls Tryz.prog bU #[.pointer (some a0), .agg #[x56, x57, x58, x59]] w61 (fun e w62 => e = .returned (.tuple #[]) ∧ Kp w w61 w62 ∧ Kp w13 w61 w62 ∧ Kp w42 w61 w62 ∧ w62.heap[w44.drew.heap.size]? = w61.heap[w44.drew.heap.size]? ∧ Kp w54 w61 w62 ∧
 ∃ n55, n55 < n51 ∧ a6 [a1_0, a1_1, a1_2] ∧ a6 [x32, x33, x34] ∧ a6 [a1_0, a1_1, a1_2, (0:Int)] ∧ a6 [x32, x33, x34] ∧ I50 n55 ((IntKind.wrap .i64 (x53 + 1))) w62))
 (R (.returned (.tuple #[])) w54)))
 (∃ I63 : Nat → Int → World → Prop,
 (∃ n64, a6 [a1_0, a1_1, a1_2] ∧ a6 [x32, x33, x34] ∧ I63 n64 (0) w42) ∧
 ∀ (n64 : Nat) (us65 : Nat → Value) (x66 : Int) (w67 : World), I63 n64 x66 w67 →
 Br (decide (x66 < ((s12.n : Nat) : Int)))
 (cn s12.a x66 s12.n ∧ ∃ (x69 x70 x71 x72 : Int), aj w67 (ae s12.a ((x66 : Int).toNat * 4)) 0 [x69, x70, x71, x72] ∧
 ∀ w73 : World, w73 = w67.alloc (.cells #[(0:Int), (0:Int), (0:Int), (0:Int)] 71) →
 ∀ w74 : World, w74 = w73.setRow w67 #[x69, x70, x71, x72] →
 Calls Tryz.prog bU #[.pointer (some a0), .agg #[x69, x70, x71, x72]] w74 (fun e w75 => e = .returned (.tuple #[]) ∧ Kp w w74 w75 ∧ Kp w13 w74 w75 ∧ Kp w67 w74 w75 ∧
 ∃ n68, n68 < n64 ∧ a6 [a1_0, a1_1, a1_2] ∧ a6 [x32, x33, x34] ∧ I63 n68 ((IntKind.wrap .i64 (x66 + 1))) w75))
 (R (.returned (.tuple #[])) w67))))
 (∃ I76 : Nat → Int → World → Prop,
 (∃ n77, a6 [a1_0, a1_1, a1_2] ∧ a6 [x32, x33, x34] ∧ I76 n77 (0) w39) ∧
 ∀ (n77 : Nat) (us78 : Nat → Value) (x79 : Int) (w80 : World), I76 n77 x79 w80 →
 Br (decide (x79 < ((s12.n : Nat) : Int)))
 (cn s12.a x79 s12.n ∧ ∃ (x82 x83 x84 x85 : Int), aj w80 (ae s12.a ((x79 : Int).toNat * 4)) 0 [x82, x83, x84, x85] ∧
 ∀ w86 : World, w86 = w80.alloc (.cells #[(0:Int), (0:Int), (0:Int), (0:Int)] 71) →
 ∀ w87 : World, w87 = w86.setRow w80 #[x82, x83, x84, x85] →
 Calls Tryz.prog bU #[.pointer (some a0), .agg #[x82, x83, x84, x85]] w87 (fun e w88 => e = .returned (.tuple #[]) ∧ Kp w w87 w88 ∧ Kp w13 w87 w88 ∧ Kp w80 w87 w88 ∧
 ∃ n81, n81 < n77 ∧ a6 [a1_0, a1_1, a1_2] ∧ a6 [x32, x33, x34] ∧ I76 n81 ((IntKind.wrap .i64 (x79 + 1))) w88))
 (R (.returned (.tuple #[])) w80)))
 (∃ I89 : Nat → Int → World → Prop,
 (∃ n90, a6 [a1_0, a1_1, a1_2] ∧ a6 [x32, x33, x34] ∧ I89 n90 (0) w39) ∧
 ∀ (n90 : Nat) (us91 : Nat → Value) (x92 : Int) (w93 : World), I89 n90 x92 w93 →
 Br (decide (x92 < ((s12.n : Nat) : Int)))
 (cn s12.a x92 s12.n ∧ ∃ (x95 x96 x97 x98 : Int), aj w93 (ae s12.a ((x92 : Int).toNat * 4)) 0 [x95, x96, x97, x98] ∧
 ∀ w99 : World, w99 = w93.alloc (.cells #[(0:Int), (0:Int), (0:Int), (0:Int)] 71) →
 ∀ w100 : World, w100 = w99.setRow w93 #[x95, x96, x97, x98] →
 Calls Tryz.prog bU #[.pointer (some a0), .agg #[x95, x96, x97, x98]] w100 (fun e w101 => e = .returned (.tuple #[]) ∧ Kp w w100 w101 ∧ Kp w13 w100 w101 ∧ Kp w93 w100 w101 ∧
 ∃ n94, n94 < n90 ∧ a6 [a1_0, a1_1, a1_2] ∧ a6 [x32, x33, x34] ∧ I89 n94 ((IntKind.wrap .i64 (x92 + 1))) w101))
 (R (.returned (.tuple #[])) w93)))))))))
theorem iZ.vc {a0 a1_0 a1_1 a1_2 w} (h : iZ.pre a0 a1_0 a1_1 a1_2 w R) : Calls Tryz.prog fN #[.pointer (some a0), .agg #[a1_0, a1_1, a1_2]] w R :=
 cq ⟨[(10, ⟨[(70, .int .i64)], [], []⟩), (10, ⟨[(70, .int .i64)], [], []⟩), (10, ⟨[(70, .int .i64)], [], []⟩), (10, ⟨[(70, .int .i64)], [], []⟩)], [], []⟩ Tryz.func47 h
def lq.pre (a0 : Addr) (w : World) (R : Ending → World → Prop) : Prop :=
 ∃ (x0 : Int), ld w (ae (some a0) 3) = some (.int .i64 x0) ∧
 (true = true ∧ Wr w (ae (some a0) 3) 1) ∧ (∀ w1 : World, w1 = aA w (ae (some a0) 3) [.int .i64 (if 1099511627776 < (IntKind.wrap .i64 (x0 + 1)) then 1099511627776 else (IntKind.wrap .i64 (x0 + 1)))] →
 ∃ (p2 : Option Addr), ld w1.drew (ae (some a0) 0) = some (.pointer p2) ∧
 ∃ (x3 : Int), ld w1.drew (ae (some a0) 3) = some (.int .i64 x3) ∧
 ∃ (x4 : Int), ld w1.drew (ae (some a0) 2) = some (.int .i64 x4) ∧
 Calls Tryz.prog 46 #[.pointer p2, x3, x4] w1.drew (fun e w5 => ∃ (s6 : Sl), e = .returned s6 ∧
 ∃ I7 : Nat → Int → World → Prop,
 (∃ n8, I7 n8 (0) w5) ∧
 ∀ (n8 : Nat) (us9 : Nat → Value) (x10 : Int) (w11 : World), I7 n8 x10 w11 →
 Br (decide (x10 < ((s6.n : Nat) : Int)))
 (cn s6.a x10 s6.n ∧ ∃ (x13 x14 x15 : Int), aj w11 (ae s6.a ((x10 : Int).toNat * 3)) 0 [x13, x14, x15] ∧
 ∀ w16 : World, w16 = w11.alloc (.cells #[(0:Int), (0:Int), (0:Int)] 23) →
 ∀ w17 : World, w17 = w16.setRow w11 #[x13, x14, x15] →
 Calls Tryz.prog fN #[.pointer (some a0), .agg #[x13, x14, x15]] w17 (fun e w18 => e = .returned (.tuple #[]) ∧ Kp w11 w17 w18 ∧
 ∃ n12, n12 < n8 ∧ I7 n12 ((IntKind.wrap .i64 (x10 + 1))) w18))
 (R (.returned (.int .i64 ((s6.n : Nat) : Int))) w11)))
theorem lq.vc {a0 w} (h : lq.pre a0 w R) : Calls Tryz.prog iW #[.pointer (some a0)] w R :=
 cq ⟨[(4, ⟨[(30, .int .i64)], [], []⟩)], [], []⟩ Tryz.func15 h
def mU.pre (a0 : Addr) (a1 : Int) (w : World) (R : Ending → World → Prop) : Prop :=
 ∃ I0 : Nat → Int → World → Prop,
 (∃ n1, I0 n1 (0) w) ∧
 ∀ (n1 : Nat) (us2 : Nat → Value) (x3 : Int) (w4 : World), I0 n1 x3 w4 →
 ∃ (p6 : Option Addr), ld w4 (ae (some a0) 0) = some (.pointer p6) ∧
 Calls Tryz.prog 48 #[.pointer p6] w4 (fun e w7 => ∃ (x8 : Int), e = .returned x8 ∧
 Br (decide (x8 > 0))
 (Br (decide (x3 < (if 1000 < a1 then 1000 else a1)))
 (Calls Tryz.prog iW #[.pointer (some a0)] w7 (fun e w9 => ∃ (x10 : Int), e = .returned x10 ∧
 ∃ n5, n5 < n1 ∧ I0 n5 ((IntKind.wrap .i64 (x3 + 1))) w9))
 (R (.returned x3) w7))
 (R (.returned x3) w7))
theorem mU.vc {a0 a1 w} (h : mU.pre a0 a1 w R) : Calls Tryz.prog oG #[.pointer (some a0), a1] w R :=
 cq ⟨[(2, ⟨[(5, .int .i64)], [], []⟩)], [], []⟩ Tryz.func16 h
end Go.Proofs.YtalpkjfpmdpbiaaGreatDoor
