import Derived.Test.YtalpkjfpmdpbiaaGreatDoorGW
set_option linter.all false
namespace Go.Proofs.YtalpkjfpmdpbiaaGreatDoor
open Go Go.Vc Go.RowKit Go.Proofs
set_option maxRecDepth 100000
set_option maxHeartbeats 8000000
variable {R:Ending->World->Prop}
set_option linter.unusedVariables false
abbrev sZ:FuncId:=60
abbrev jU:FuncId:=88
abbrev jP:FuncId:=46
abbrev jS:FuncId:=48
abbrev sY:FuncId:=84
abbrev gi:FuncId:=131
abbrev cS:FuncId:=132
abbrev bu:FuncId:=133
abbrev bE:FuncId:=90
abbrev ct:FuncId:=177
abbrev gK:FuncId:=178
abbrev bA:FuncId:=179
abbrev gL:FuncId:=180
abbrev lV:FuncId:=181
abbrev fu:FuncId:=182
abbrev dI:FuncId:=183
abbrev cH:FuncId:=220
abbrev eo:FuncId:=221
abbrev jw:FuncId:=223
def sm.pre (a0 : Int) (w : World) (R : Ending → World → Prop) : Prop :=
 ∀ w0 : World, w0 = w.alloc (.map #[] 0) →
 ∀ w1 : World, w1 = w0.alloc (.cells #[.int .i64 (if 4096 < (if 1 > a0 then 1 else a0) then 4096 else (if 1 > a0 then 1 else a0)), (0:Int), .slice none 0 0, .map (some w.heap.size)] 158) →
 R (.returned (.pointer (some ⟨w0, 0, none⟩))) w1
theorem sm.vc {a0 w} (h : sm.pre a0 w R) : Calls Tryz.prog sZ #[a0] w R :=
 cq ⟨[], [], []⟩ Tryz.func60 h
def ia.pre (a0 : Addr) (a1_0 a1_1 a1_2 a2 : Int) (w : World) (R : Ending → World → Prop) : Prop :=
 ∀ w0 : World, w0 = w.alloc (.cells #[a1_0, a1_1, a1_2] 23) →
 Calls Tryz.prog gi #[.pointer (some a0), .agg #[a1_0, a1_1, a1_2]] w0 (fun e w1 => ∃ (x2 : Int) (b3 : Bool), e = .returned (.tuple #[x2, .bool b3]) ∧ Kp w w0 w1 ∧
 Br b3
 (Br (decide (x2 ≤ a2))
 (R (.returned (.bool false)) w1)
 (Br b3
 (Calls Tryz.prog cS #[.pointer (some a0), .agg #[a1_0, a1_1, a1_2]] w1 (fun e w4 => ∃ (b5 : Bool), e = .returned (.bool b5) ∧ Kp w w1 w4 ∧
 Calls Tryz.prog bu #[.pointer (some a0), .agg #[a2, a1_0, a1_1, a1_2]] w4 (fun e w6 => e = .returned (.tuple #[]) ∧ Kp w w4 w6 ∧
 R (.returned (.bool true)) w6)))
 (∃ (s7 : Sl), ld w1.drew (ae (some a0) 2) = some (.slice s7.a s7.n s7.c) ∧
 ∃ (x8 : Int), ld w1.drew (ae (some a0) 0) = some (.int .i64 x8) ∧
 Br ((((s7.n : Nat) : Int) : Int) == x8)
 (∃ (x9 : Int), ld w1.drew (ae (some a0) 1) = some (.int .i64 x9) ∧
 (true = true ∧ Wr w1.drew (ae (some a0) 1) 1) ∧ bD (ae (some a0) 1) ≠ some w.heap.size ∧ (∀ w10 : World, w10 = aA w1.drew (ae (some a0) 1) [(IntKind.wrap .i64 (x9 + 1))] →
 R (.returned (.bool false)) w10))
 (Calls Tryz.prog bu #[.pointer (some a0), .agg #[a2, a1_0, a1_1, a1_2]] w1.drew (fun e w11 => e = .returned (.tuple #[]) ∧ Kp w w1.drew w11 ∧
 R (.returned (.bool true)) w11)))))
 (Br b3
 (Calls Tryz.prog cS #[.pointer (some a0), .agg #[a1_0, a1_1, a1_2]] w1 (fun e w12 => ∃ (b13 : Bool), e = .returned (.bool b13) ∧ Kp w w1 w12 ∧
 Calls Tryz.prog bu #[.pointer (some a0), .agg #[a2, a1_0, a1_1, a1_2]] w12 (fun e w14 => e = .returned (.tuple #[]) ∧ Kp w w12 w14 ∧
 R (.returned (.bool true)) w14)))
 (∃ (s15 : Sl), ld w1.drew (ae (some a0) 2) = some (.slice s15.a s15.n s15.c) ∧
 ∃ (x16 : Int), ld w1.drew (ae (some a0) 0) = some (.int .i64 x16) ∧
 Br ((((s15.n : Nat) : Int) : Int) == x16)
 (∃ (x17 : Int), ld w1.drew (ae (some a0) 1) = some (.int .i64 x17) ∧
 (true = true ∧ Wr w1.drew (ae (some a0) 1) 1) ∧ bD (ae (some a0) 1) ≠ some w.heap.size ∧ (∀ w18 : World, w18 = aA w1.drew (ae (some a0) 1) [(IntKind.wrap .i64 (x17 + 1))] →
 R (.returned (.bool false)) w18))
 (Calls Tryz.prog bu #[.pointer (some a0), .agg #[a2, a1_0, a1_1, a1_2]] w1.drew (fun e w19 => e = .returned (.tuple #[]) ∧ Kp w w1.drew w19 ∧
 R (.returned (.bool true)) w19)))))
theorem ia.vc {a0 a1_0 a1_1 a1_2 a2 w} (h : ia.pre a0 a1_0 a1_1 a1_2 a2 w R) : Calls Tryz.prog jU #[.pointer (some a0), .agg #[a1_0, a1_1, a1_2], a2] w R :=
 cq ⟨[], [], []⟩ Tryz.func88 h
def g8.pre (a0 : Addr) (a1 a2 : Int) (w : World) (R : Ending → World → Prop) : Prop :=
 ∃ I0 : Nat → Int → World → Prop,
 (∃ n1, I0 n1 (0) w) ∧
 ∀ (n1 : Nat) (us2 : Nat → Value) (x3 : Int) (w4 : World), I0 n1 x3 w4 →
 ∃ (s6 : Sl), ld w4 (ae (some a0) 2) = some (.slice s6.a s6.n s6.c) ∧
 Br (decide (x3 < ((s6.n : Nat) : Int)))
 (Br (decide (x3 < a2))
 (∃ (s7 : Sl), ld w4 (ae (some a0) 2) = some (.slice s7.a s7.n s7.c) ∧
 cn s7.a x3 s7.n ∧ aV (ik (ae s7.a ((x3 : Int).toNat * 4))) (∃ (x8 : Int), ld w4 (ae (ae s7.a ((x3 : Int).toNat * 4)) 0) = some (.int .i64 x8) ∧
 Br (decide (x8 ≤ a1))
 (∃ n5, n5 < n1 ∧ I0 n5 ((IntKind.wrap .i64 (x3 + 1))) w4)
 (∃ (s9 : Sl), ld w4 (ae (some a0) 2) = some (.slice s9.a s9.n s9.c) ∧
 (0 : Int) ≤ x3 ∧ x3 ≤ ((s9.c : Nat) : Int) ∧ (0 : Int) ≤ x3 ∧ x3 ≤ x3 ∧ ∃ I10 : Nat → Int → Sl → World → Prop,
 (∃ n11, I10 n11 (0) ⟨none, 0, 0⟩ w4) ∧
 ∀ (n11 : Nat) (us12 : Nat → Value) (x13 : Int) (s14 : Sl) (w15 : World), I10 n11 x13 s14 w15 →
 Br (decide (x13 < ((((x3 : Int).toNat - 0) : Nat) : Int)))
 (cn (ai s9.a (0) ((x3 : Int).toNat) 4) x13 ((x3 : Int).toNat - 0) ∧ ∃ (x17 x18 x19 x20 : Int), aj w15 (ae (ai s9.a (0) ((x3 : Int).toNat) 4) ((x13 : Int).toNat * 4)) 0 [x17, x18, x19, x20] ∧
 ∀ w21 : World, w21 = w15.alloc (.cells #[(0:Int), (0:Int), (0:Int), (0:Int)] 120) →
 ∀ w22 : World, w22 = w21.setRow w15 #[x17, x18, x19, x20] →
 ∀ w23 : World, w23 = w22.alloc (.cells #[x18, x19, x20] 23) →
 az 24 3 w23 s14 1 [x18, x19, x20] ∧ ∀ (s24 : Sl) (w25 : World), av 23 3 w23 s14 1 [x18, x19, x20] s24 w25 → Kp w15 w23 w25 ∧ Kp w22 w23 w25 ∧
 ∃ (m26 : Option Nat), ld w25.drew (ae (some a0) 3) = some (.map m26) ∧
 ∃ (G27 : Value → Prop) (kvs28 : List (Value × Value)), dD Tryz.prog 23 G27 ∧ (m26 : Option Nat).isSome = true ∧ aJ G27 w25.drew m26 kvs28 ∧ G27 (.agg #[x18, x19, x20]) ∧ ∀ w29 : World, Rec ((m26 : Option Nat).getD 0) w25.drew w29 → aJ G27 w29 m26 (u7 kvs28 (.agg #[x18, x19, x20])) →
 ∃ n16, n16 < n11 ∧ I10 n16 ((IntKind.wrap .i64 (x13 + 1))) s24 w29)
 (∃ (s30 : Sl), ld w15 (ae (some a0) 2) = some (.slice s30.a s30.n s30.c) ∧
 Calls Tryz.prog bE #[s30, (0:Int), x3] w15 (fun e w31 => ∃ (s32 : Sl), e = .returned s32 ∧
 (true = true ∧ Wr w31 (ae (some a0) 2) 1) ∧ (∀ w33 : World, w33 = aA w31 (ae (some a0) 2) [s32] →
 R (.returned s14) w33))))))
 (∃ (s34 : Sl), ld w4 (ae (some a0) 2) = some (.slice s34.a s34.n s34.c) ∧
 (0 : Int) ≤ x3 ∧ x3 ≤ ((s34.c : Nat) : Int) ∧ (0 : Int) ≤ x3 ∧ x3 ≤ x3 ∧ ∃ I35 : Nat → Int → Sl → World → Prop,
 (∃ n36, I35 n36 (0) ⟨none, 0, 0⟩ w4) ∧
 ∀ (n36 : Nat) (us37 : Nat → Value) (x38 : Int) (s39 : Sl) (w40 : World), I35 n36 x38 s39 w40 →
 Br (decide (x38 < ((((x3 : Int).toNat - 0) : Nat) : Int)))
 (cn (ai s34.a (0) ((x3 : Int).toNat) 4) x38 ((x3 : Int).toNat - 0) ∧ ∃ (x42 x43 x44 x45 : Int), aj w40 (ae (ai s34.a (0) ((x3 : Int).toNat) 4) ((x38 : Int).toNat * 4)) 0 [x42, x43, x44, x45] ∧
 ∀ w46 : World, w46 = w40.alloc (.cells #[(0:Int), (0:Int), (0:Int), (0:Int)] 120) →
 ∀ w47 : World, w47 = w46.setRow w40 #[x42, x43, x44, x45] →
 ∀ w48 : World, w48 = w47.alloc (.cells #[x43, x44, x45] 23) →
 az 24 3 w48 s39 1 [x43, x44, x45] ∧ ∀ (s49 : Sl) (w50 : World), av 23 3 w48 s39 1 [x43, x44, x45] s49 w50 → Kp w40 w48 w50 ∧ Kp w47 w48 w50 ∧
 ∃ (m51 : Option Nat), ld w50.drew (ae (some a0) 3) = some (.map m51) ∧
 ∃ (G52 : Value → Prop) (kvs53 : List (Value × Value)), dD Tryz.prog 23 G52 ∧ (m51 : Option Nat).isSome = true ∧ aJ G52 w50.drew m51 kvs53 ∧ G52 (.agg #[x43, x44, x45]) ∧ ∀ w54 : World, Rec ((m51 : Option Nat).getD 0) w50.drew w54 → aJ G52 w54 m51 (u7 kvs53 (.agg #[x43, x44, x45])) →
 ∃ n41, n41 < n36 ∧ I35 n41 ((IntKind.wrap .i64 (x38 + 1))) s49 w54)
 (∃ (s55 : Sl), ld w40 (ae (some a0) 2) = some (.slice s55.a s55.n s55.c) ∧
 Calls Tryz.prog bE #[s55, (0:Int), x3] w40 (fun e w56 => ∃ (s57 : Sl), e = .returned s57 ∧
 (true = true ∧ Wr w56 (ae (some a0) 2) 1) ∧ (∀ w58 : World, w58 = aA w56 (ae (some a0) 2) [s57] →
 R (.returned s39) w58)))))
 (∃ (s59 : Sl), ld w4 (ae (some a0) 2) = some (.slice s59.a s59.n s59.c) ∧
 (0 : Int) ≤ x3 ∧ x3 ≤ ((s59.c : Nat) : Int) ∧ (0 : Int) ≤ x3 ∧ x3 ≤ x3 ∧ ∃ I60 : Nat → Int → Sl → World → Prop,
 (∃ n61, I60 n61 (0) ⟨none, 0, 0⟩ w4) ∧
 ∀ (n61 : Nat) (us62 : Nat → Value) (x63 : Int) (s64 : Sl) (w65 : World), I60 n61 x63 s64 w65 →
 Br (decide (x63 < ((((x3 : Int).toNat - 0) : Nat) : Int)))
 (cn (ai s59.a (0) ((x3 : Int).toNat) 4) x63 ((x3 : Int).toNat - 0) ∧ ∃ (x67 x68 x69 x70 : Int), aj w65 (ae (ai s59.a (0) ((x3 : Int).toNat) 4) ((x63 : Int).toNat * 4)) 0 [x67, x68, x69, x70] ∧
 ∀ w71 : World, w71 = w65.alloc (.cells #[(0:Int), (0:Int), (0:Int), (0:Int)] 120) →
 ∀ w72 : World, w72 = w71.setRow w65 #[x67, x68, x69, x70] →
 ∀ w73 : World, w73 = w72.alloc (.cells #[x68, x69, x70] 23) →
 az 24 3 w73 s64 1 [x68, x69, x70] ∧ ∀ (s74 : Sl) (w75 : World), av 23 3 w73 s64 1 [x68, x69, x70] s74 w75 → Kp w65 w73 w75 ∧ Kp w72 w73 w75 ∧
 ∃ (m76 : Option Nat), ld w75.drew (ae (some a0) 3) = some (.map m76) ∧
 ∃ (G77 : Value → Prop) (kvs78 : List (Value × Value)), dD Tryz.prog 23 G77 ∧ (m76 : Option Nat).isSome = true ∧ aJ G77 w75.drew m76 kvs78 ∧ G77 (.agg #[x68, x69, x70]) ∧ ∀ w79 : World, Rec ((m76 : Option Nat).getD 0) w75.drew w79 → aJ G77 w79 m76 (u7 kvs78 (.agg #[x68, x69, x70])) →
 ∃ n66, n66 < n61 ∧ I60 n66 ((IntKind.wrap .i64 (x63 + 1))) s74 w79)
 (∃ (s80 : Sl), ld w65 (ae (some a0) 2) = some (.slice s80.a s80.n s80.c) ∧
 Calls Tryz.prog bE #[s80, (0:Int), x3] w65 (fun e w81 => ∃ (s82 : Sl), e = .returned s82 ∧
 (true = true ∧ Wr w81 (ae (some a0) 2) 1) ∧ (∀ w83 : World, w83 = aA w81 (ae (some a0) 2) [s82] →
 R (.returned s64) w83))))
theorem g8.vc {a0 a1 a2 w} (h : g8.pre a0 a1 a2 w R) : Calls Tryz.prog jP #[.pointer (some a0), a1, a2] w R :=
 cq ⟨[(6, ⟨[(45, .int .i64), (8, .slice)], [], []⟩), (6, ⟨[(45, .int .i64), (8, .slice)], [], []⟩), (6, ⟨[(45, .int .i64), (8, .slice)], [], []⟩), (2, ⟨[(7, .int .i64)], [], []⟩)], [], []⟩ Tryz.func46 h
def hZ.pre (a0 : Addr) (w : World) (R : Ending → World → Prop) : Prop :=
 ∃ (s0 : Sl), ld w (ae (some a0) 2) = some (.slice s0.a s0.n s0.c) ∧
 R (.returned (.int .i64 ((s0.n : Nat) : Int))) w
theorem hZ.vc {a0 w} (h : hZ.pre a0 w R) : Calls Tryz.prog jS #[.pointer (some a0)] w R :=
 cq ⟨[], [], []⟩ Tryz.func48 h
def sh.pre (a0 : Int) (w : World) (R : Ending → World → Prop) : Prop :=
 ∀ w0 : World, w0 = w.alloc (.cells #[(0:Int), (0:Int), .slice none 0 0] 36) →
 ∀ w1 : World, w1 = w0.setRow w #[.int .i64 (if 4096 < (if 1 > a0 then 1 else a0) then 4096 else (if 1 > a0 then 1 else a0)), (0:Int), .slice none 0 0] →
 R (.returned (.agg #[.int .i64 (if 4096 < (if 1 > a0 then 1 else a0) then 4096 else (if 1 > a0 then 1 else a0)), (0:Int), .slice none 0 0])) w1
theorem sh.vc {a0 w} (h : sh.pre a0 w R) : Calls Tryz.prog sY #[a0] w R :=
 cq ⟨[], [], []⟩ Tryz.func84 h
def jn.pre (a0 : Addr) (a1_0 a1_1 a1_2 : Int) (w : World) (R : Ending → World → Prop) : Prop :=
 ∀ w0 : World, w0 = w.alloc (.cells #[a1_0, a1_1, a1_2] 23) →
 ∃ (m1 : Option Nat), ld w0.drew (ae (some a0) 3) = some (.map m1) ∧
 ∃ (G2 : Value → Prop) (kvs3 : List (Value × Value)), dD Tryz.prog 23 G2 ∧ aJ G2 w0.drew m1 kvs3 ∧ G2 (.agg #[a1_0, a1_1, a1_2]) ∧ ∃ (x4 : Int), ∃ b5 : Bool, vP kvs3 (.agg #[a1_0, a1_1, a1_2]) (0:Int) x4 b5 ∧
 R (.returned (.tuple #[x4, .bool b5])) w0.drew
theorem jn.vc {a0 a1_0 a1_1 a1_2 w} (h : jn.pre a0 a1_0 a1_1 a1_2 w R) : Calls Tryz.prog gi #[.pointer (some a0), .agg #[a1_0, a1_1, a1_2]] w R :=
 cq ⟨[], [], []⟩ Tryz.func131 h
def fY.pre (a0 : Addr) (a1_0 a1_1 a1_2 : Int) (w : World) (R : Ending → World → Prop) : Prop :=
 ∀ w0 : World, w0 = w.alloc (.cells #[a1_0, a1_1, a1_2] 23) →
 ∃ (m1 : Option Nat), ld w0.drew (ae (some a0) 3) = some (.map m1) ∧
 ∃ (G2 : Value → Prop) (kvs3 : List (Value × Value)), dD Tryz.prog 23 G2 ∧ aJ G2 w0.drew m1 kvs3 ∧ G2 (.agg #[a1_0, a1_1, a1_2]) ∧ ∃ (x4 : Int), ∃ b5 : Bool, vP kvs3 (.agg #[a1_0, a1_1, a1_2]) (0:Int) x4 b5 ∧
 Br (!b5)
 (R (.returned (.bool false)) w0.drew)
 (∃ (m6 : Option Nat), ld w0.drew.drew (ae (some a0) 3) = some (.map m6) ∧
 ∃ (G7 : Value → Prop) (kvs8 : List (Value × Value)), dD Tryz.prog 23 G7 ∧ (m6 : Option Nat).isSome = true ∧ aJ G7 w0.drew.drew m6 kvs8 ∧ G7 (.agg #[a1_0, a1_1, a1_2]) ∧ ∀ w9 : World, Rec ((m6 : Option Nat).getD 0) w0.drew.drew w9 → aJ G7 w9 m6 (u7 kvs8 (.agg #[a1_0, a1_1, a1_2])) →
 ∃ (s10 : Sl), ld w9 (ae (some a0) 2) = some (.slice s10.a s10.n s10.c) ∧
 Calls Tryz.prog ct #[s10, .func (.func 178) #[] #[.pointer (some ⟨w, 0, none⟩)]] w9 (fun e w11 => ∃ (s12 : Sl), e = .returned s12 ∧
 (true = true ∧ Wr w11 (ae (some a0) 2) 1) ∧ (∀ w13 : World, w13 = aA w11 (ae (some a0) 2) [s12] →
 R (.returned (.bool true)) w13)))
theorem fY.vc {a0 a1_0 a1_1 a1_2 w} (h : fY.pre a0 a1_0 a1_1 a1_2 w R) : Calls Tryz.prog cS #[.pointer (some a0), .agg #[a1_0, a1_1, a1_2]] w R :=
 cq ⟨[], [], []⟩ Tryz.func132 h
def fX.pre (a0 : Addr) (a1_0 a1_1 a1_2 a1_3 : Int) (w : World) (R : Ending → World → Prop) : Prop :=
 ∀ w0 : World, w0 = w.alloc (.cells #[a1_0, a1_1, a1_2, a1_3] 120) →
 ∃ (s1 : Sl), ld w0.drew (ae (some a0) 2) = some (.slice s1.a s1.n s1.c) ∧
 Calls Tryz.prog bA #[s1, .agg #[a1_0, a1_1, a1_2, a1_3], .func (.func 180) #[] #[]] w0.drew (fun e w2 => ∃ (x3 : Int) (b4 : Bool), e = .returned (.tuple #[x3, .bool b4]) ∧ Kp w w0.drew w2 ∧
 ∃ (s5 : Sl), ld w2.drew (ae (some a0) 2) = some (.slice s5.a s5.n s5.c) ∧
 ∀ w6 : World, w6 = w2.drew.alloc (.cells #[a1_0, a1_1, a1_2, a1_3] 120) →
 Calls Tryz.prog dI #[s5, x3, .slice (some ⟨w2.drew.heap.size, 0, none⟩) 1 1] w6 (fun e w7 => ∃ (s8 : Sl), e = .returned s8 ∧ Kp w w6 w7 ∧
 (true = true ∧ Wr w7 (ae (some a0) 2) 1) ∧ bD (ae (some a0) 2) ≠ some w.heap.size ∧ (∀ w9 : World, w9 = aA w7 (ae (some a0) 2) [s8] →
 ∃ (m10 : Option Nat), ld w9.drew (ae (some a0) 3) = some (.map m10) ∧
 ∃ (G11 : Value → Prop) (kvs12 : List (Value × Value)), dD Tryz.prog 23 G11 ∧ (m10 : Option Nat).isSome = true ∧ aJ G11 w9.drew m10 kvs12 ∧ G11 (.agg #[a1_1, a1_2, a1_3]) ∧ ∀ w13 : World, Rec ((m10 : Option Nat).getD 0) w9.drew w13 → aJ G11 w13 m10 (py kvs12 (.agg #[a1_1, a1_2, a1_3]) a1_0) →
 R (.returned (.tuple #[])) w13)))
theorem fX.vc {a0 a1_0 a1_1 a1_2 a1_3 w} (h : fX.pre a0 a1_0 a1_1 a1_2 a1_3 w R) : Calls Tryz.prog bu #[.pointer (some a0), .agg #[a1_0, a1_1, a1_2, a1_3]] w R :=
 cq ⟨[], [], []⟩ Tryz.func133 h
def eC.pre (a0 : Sl) (a1 a2 : Int) (w : World) (R : Ending → World → Prop) : Prop :=
 (0 : Int) ≤ ((a0.n : Nat) : Int) ∧ ((a0.n : Nat) : Int) ≤ ((a0.c : Nat) : Int) ∧ (0 : Int) ≤ a2 ∧ a2 ≤ ((a0.n : Nat) : Int) ∧ (0 : Int) ≤ a1 ∧ a1 ≤ a2 ∧ Br (a1 == a2)
 (R (.returned a0) w)
 ((0 : Int) ≤ a1 ∧ a1 ≤ ((a0.c : Nat) : Int) ∧ (0 : Int) ≤ a2 ∧ a2 ≤ ((a0.n : Nat) : Int) ∧ ∃ l0 : List Value, Rd w.drew (ai a0.a ((a2 : Int).toNat) (a0.c) 4) l0 ∧ az 32 4 w.drew ⟨(ai a0.a (0) (a0.c) 4), ((a1 : Int).toNat - 0), (a0.c - 0)⟩ (a0.n - (a2 : Int).toNat) l0 ∧ ∀ (s1 : Sl) (w2 : World), av 120 4 w.drew ⟨(ai a0.a (0) (a0.c) 4), ((a1 : Int).toNat - 0), (a0.c - 0)⟩ (a0.n - (a2 : Int).toNat) l0 s1 w2 →
 (0 : Int) ≤ ((a0.n : Nat) : Int) ∧ ((a0.n : Nat) : Int) ≤ ((s1.c : Nat) : Int) ∧ (0 : Int) ≤ ((s1.n : Nat) : Int) ∧ (((s1.n : Nat) : Int) : Int) ≤ ((a0.n : Nat) : Int) ∧ Wr w2 (ai s1.a ((((s1.n : Nat) : Int) : Int).toNat) (s1.c) 4) (((((a0.n : Nat) : Int) : Int).toNat - (((s1.n : Nat) : Int) : Int).toNat) * 4) ∧ (∀ w3 : World, w3 = aA w2 (ai s1.a ((((s1.n : Nat) : Int) : Int).toNat) (s1.c) 4) (aE [(0:Int), (0:Int), (0:Int), (0:Int)] ((((a0.n : Nat) : Int) : Int).toNat - (((s1.n : Nat) : Int) : Int).toNat)) →
 R (.returned s1) w3))
theorem eC.vc {a0 a1 a2 w} (h : eC.pre a0 a1 a2 w R) : Calls Tryz.prog bE #[a0, a1, a2] w R :=
 cq ⟨[], [], []⟩ Tryz.func90 h
def cM.pre (a0 : Sl) (a1 : Value) (w : World) (R : Ending → World → Prop) : Prop :=
 Calls Tryz.prog cH #[a0, a1] w (fun e w0 => ∃ (x1 : Int), e = .returned x1 ∧
 Br (x1 == (-1))
 (R (.returned a0) w0)
 (∃ I2 : Nat → Int → Int → World → Prop,
 (∃ n3, I2 n3 ((IntKind.wrap .i64 (x1 + 1))) x1 w0) ∧
 ∀ (n3 : Nat) (us4 : Nat → Value) (x5 x6 : Int) (w7 : World), I2 n3 x5 x6 w7 →
 Br (decide (x5 < ((a0.n : Nat) : Int)))
 (cn a0.a x5 a0.n ∧ ∃ (x9 x10 x11 x12 : Int), aj w7 (ae a0.a ((x5 : Int).toNat * 4)) 0 [x9, x10, x11, x12] ∧
 ∀ w13 : World, w13 = w7.alloc (.cells #[(0:Int), (0:Int), (0:Int), (0:Int)] 120) →
 ∀ w14 : World, w14 = w13.setRow w7 #[x9, x10, x11, x12] →
 a8 Tryz.prog a1 [.agg #[x9, x10, x11, x12]] w14 (fun e w15 => ∃ (b16 : Bool), e = .returned (.bool b16) ∧ Kp w7 w14 w15 ∧
 Br (!b16)
 (cn a0.a x6 a0.n ∧ (((ae a0.a ((x6 : Int).toNat * 4))).isSome = true ∧ Wr w15 (ae a0.a ((x6 : Int).toNat * 4)) 4) ∧ bD (ae a0.a ((x6 : Int).toNat * 4)) ≠ some w7.heap.size ∧ (∀ w17 : World, w17 = aA w15 (ae a0.a ((x6 : Int).toNat * 4)) [x9, x10, x11, x12] →
 ∃ n8, n8 < n3 ∧ I2 n8 ((IntKind.wrap .i64 (x5 + 1))) ((IntKind.wrap .i64 (x6 + 1))) w17))
 (∃ n8, n8 < n3 ∧ I2 n8 ((IntKind.wrap .i64 (x5 + 1))) x6 w15)))
 ((0 : Int) ≤ x6 ∧ x6 ≤ ((a0.n : Nat) : Int) ∧ Wr w7 (ai a0.a ((x6 : Int).toNat) (a0.c) 4) ((a0.n - (x6 : Int).toNat) * 4) ∧ (∀ w18 : World, w18 = aA w7 (ai a0.a ((x6 : Int).toNat) (a0.c) 4) (aE [(0:Int), (0:Int), (0:Int), (0:Int)] (a0.n - (x6 : Int).toNat)) →
 (0 : Int) ≤ x6 ∧ x6 ≤ ((a0.c : Nat) : Int) ∧ R (.returned (.slice (ai a0.a (0) (a0.c) 4) ((x6 : Int).toNat - 0) (a0.c - 0))) w18))))
theorem cM.vc {a0 a1 w} (h : cM.pre a0 a1 w R) : Calls Tryz.prog ct #[a0, a1] w R :=
 cq ⟨[(5, ⟨[(6, .int .i64), (5, .int .i64)], [], []⟩)], [], []⟩ Tryz.func177 h
def eL.pre (a0_0 a0_1 a0_2 a0_3 : Int) (c0 : Addr) (w : World) (R : Ending → World → Prop) : Prop :=
 ∀ w0 : World, w0 = w.alloc (.cells #[a0_0, a0_1, a0_2, a0_3] 120) →
 ∃ (x1 x2 x3 : Int), aj w0 (some c0) 0 [x1, x2, x3] ∧
 R (.returned (.bool ((a0_1 == x1) && ((a0_2 == x2) && (a0_3 == x3))))) w0
theorem eL.vc {a0_0 a0_1 a0_2 a0_3 c0 w} (h : eL.pre a0_0 a0_1 a0_2 a0_3 c0 w R) : Calls Tryz.prog gK #[.agg #[a0_0, a0_1, a0_2, a0_3], .pointer (some c0)] w R :=
 cq ⟨[], [], []⟩ Tryz.func178 h
def bJ.pre (a0 : Sl) (a1_0 a1_1 a1_2 a1_3 : Int) (a2 : Value) (w : World) (R : Ending → World → Prop) : Prop :=
 ∀ w0 : World, w0 = w.alloc (.cells #[a1_0, a1_1, a1_2, a1_3] 120) →
 ∃ I1 : Nat → Int → Int → World → Prop,
 (∃ n2, a6 [a1_0, a1_1, a1_2, a1_3] ∧ I1 n2 (0) (((a0.n : Nat) : Int)) w0) ∧
 ∀ (n2 : Nat) (us3 : Nat → Value) (x4 x5 : Int) (w6 : World), I1 n2 x4 x5 w6 →
 Br (decide (x4 < x5))
 (cn a0.a (IntKind.wrap .i64 (((IntKind.wrap .u64 (IntKind.wrap .i64 (x4 + x5))) : Int).fdiv (2 ^ (min (1 : Int).toNat 64)))) a0.n ∧ ∃ (x8 x9 x10 x11 : Int), aj w6.drew (ae a0.a (((IntKind.wrap .i64 (((IntKind.wrap .u64 (IntKind.wrap .i64 (x4 + x5))) : Int).fdiv (2 ^ (min (1 : Int).toNat 64)))) : Int).toNat * 4)) 0 [x8, x9, x10, x11] ∧
 a8 Tryz.prog a2 [.agg #[x8, x9, x10, x11], .agg #[a1_0, a1_1, a1_2, a1_3]] w6.drew (fun e w12 => ∃ (x13 : Int), e = .returned x13 ∧ Kp w w6.drew w12 ∧
 Br (decide (x13 < 0))
 (∃ n7, n7 < n2 ∧ a6 [a1_0, a1_1, a1_2, a1_3] ∧ I1 n7 ((IntKind.wrap .i64 ((IntKind.wrap .i64 (((IntKind.wrap .u64 (IntKind.wrap .i64 (x4 + x5))) : Int).fdiv (2 ^ (min (1 : Int).toNat 64)))) + 1))) x5 w12)
 (∃ n7, n7 < n2 ∧ a6 [a1_0, a1_1, a1_2, a1_3] ∧ I1 n7 x4 ((IntKind.wrap .i64 (((IntKind.wrap .u64 (IntKind.wrap .i64 (x4 + x5))) : Int).fdiv (2 ^ (min (1 : Int).toNat 64))))) w12)))
 (Br (decide (x4 < ((a0.n : Nat) : Int)))
 (cn a0.a x4 a0.n ∧ ∃ (x14 x15 x16 x17 : Int), aj w6.drew (ae a0.a ((x4 : Int).toNat * 4)) 0 [x14, x15, x16, x17] ∧
 a8 Tryz.prog a2 [.agg #[x14, x15, x16, x17], .agg #[a1_0, a1_1, a1_2, a1_3]] w6.drew (fun e w18 => ∃ (x19 : Int), e = .returned x19 ∧ Kp w w6.drew w18 ∧
 R (.returned (.tuple #[x4, .bool (x19 == 0)])) w18))
 (R (.returned (.tuple #[x4, .bool false])) w6.drew))
theorem bJ.vc {a0 a1_0 a1_1 a1_2 a1_3 a2 w} (h : bJ.pre a0 a1_0 a1_1 a1_2 a1_3 a2 w R) : Calls Tryz.prog bA #[a0, .agg #[a1_0, a1_1, a1_2, a1_3], a2] w R :=
 cq ⟨[(3, ⟨[(9, .int .i64), (10, .int .i64)], [], []⟩)], [], []⟩ Tryz.func179 h
def eM.pre (a0_0 a0_1 a0_2 a0_3 a1_0 a1_1 a1_2 a1_3 : Int) (w : World) (R : Ending → World → Prop) : Prop :=
 ∀ w0 : World, w0 = w.alloc (.cells #[a0_0, a0_1, a0_2, a0_3] 120) →
 ∀ w1 : World, w1 = w0.alloc (.cells #[a1_0, a1_1, a1_2, a1_3] 120) →
 Calls Tryz.prog fu #[a0_0, a1_0] w1 (fun e w2 => ∃ (x3 : Int), e = .returned x3 ∧ Kp w w1 w2 ∧ Kp w0 w1 w2 ∧
 ∀ w4 : World, w4 = w2.alloc (.cells #[x3, .int .i64 (-1)] 3) →
 Calls Tryz.prog lV #[.slice (some ⟨w2, 0, none⟩) 2 2] w4 (fun e w5 => ∃ (x6 : Int), e = .returned x6 ∧ Kp w w4 w5 ∧ Kp w0 w4 w5 ∧
 R (.returned x6) w5))
theorem eM.vc {a0_0 a0_1 a0_2 a0_3 a1_0 a1_1 a1_2 a1_3 w} (h : eM.pre a0_0 a0_1 a0_2 a0_3 a1_0 a1_1 a1_2 a1_3 w R) : Calls Tryz.prog gL #[.agg #[a0_0, a0_1, a0_2, a0_3], .agg #[a1_0, a1_1, a1_2, a1_3]] w R :=
 cq ⟨[], [], []⟩ Tryz.func180 h
def pU.pre (a0 : Sl) (w : World) (R : Ending → World → Prop) : Prop :=
 ∃ I0 : Nat → Int → World → Prop,
 (∃ n1, I0 n1 (0) w) ∧
 ∀ (n1 : Nat) (us2 : Nat → Value) (x3 : Int) (w4 : World), I0 n1 x3 w4 →
 Br (decide (x3 < ((a0.n : Nat) : Int)))
 (cn a0.a x3 a0.n ∧ ∃ (x6 : Int), ld w4 (ae a0.a ((x3 : Int).toNat * 1)) = some (.int .i64 x6) ∧
 Br (x6 != 0)
 (R (.returned x6) w4)
 (∃ n5, n5 < n1 ∧ I0 n5 ((IntKind.wrap .i64 (x3 + 1))) w4))
 (R (.returned (0:Int)) w4)
theorem pU.vc {a0 w} (h : pU.pre a0 w R) : Calls Tryz.prog lV #[a0] w R :=
 cq ⟨[(3, ⟨[(8, .int .i64)], [], []⟩)], [], []⟩ Tryz.func181 h
def ib.pre (a0 a1 : Int) (w : World) (R : Ending → World → Prop) : Prop :=
 Calls Tryz.prog eo #[a0] w (fun e w0 => ∃ (b1 : Bool), e = .returned (.bool b1) ∧
 Calls Tryz.prog eo #[a1] w0 (fun e w2 => ∃ (b3 : Bool), e = .returned (.bool b3) ∧
 Br b1
 (Br b3
 (R (.returned (0:Int)) w2)
 (R (.returned (.int .i64 (-1))) w2))
 (Br b3
 (R (.returned (1:Int)) w2)
 (Br (decide (a0 < a1))
 (R (.returned (.int .i64 (-1))) w2)
 (Br (decide (a0 > a1))
 (R (.returned (1:Int)) w2)
 (R (.returned (0:Int)) w2))))))
theorem ib.vc {a0 a1 w} (h : ib.pre a0 a1 w R) : Calls Tryz.prog fu #[a0, a1] w R :=
 cq ⟨[], [], []⟩ Tryz.func182 h
def cU.pre (a0 : Sl) (a1 : Int) (a2 : Sl) (w : World) (R : Ending → World → Prop) : Prop :=
 (0 : Int) ≤ a1 ∧ a1 ≤ ((a0.n : Nat) : Int) ∧ Br ((((a2.n : Nat) : Int) : Int) == 0)
 (R (.returned a0) w)
 (Br (a1 == ((a0.n : Nat) : Int))
 (∃ l0 : List Value, Rd w a2.a l0 ∧ az 32 4 w a0 a2.n l0 ∧ ∀ (s1 : Sl) (w2 : World), av 120 4 w a0 a2.n l0 s1 w2 →
 R (.returned s1) w2)
 (Br (decide (((IntKind.wrap .i64 (((a0.n : Nat) : Int) + ((a2.n : Nat) : Int))) : Int) > ((a0.c : Nat) : Int)))
 ((0 : Int) ≤ a1 ∧ a1 ≤ ((a0.c : Nat) : Int) ∧ ((0 : Int) ≤ (IntKind.wrap .i64 ((IntKind.wrap .i64 (((a0.n : Nat) : Int) + ((a2.n : Nat) : Int))) - a1)) ∧ IntKind.wrap .i64 (IntKind.wrap .i64 ((IntKind.wrap .i64 (((a0.n : Nat) : Int) + ((a2.n : Nat) : Int))) - a1)) = (IntKind.wrap .i64 ((IntKind.wrap .i64 (((a0.n : Nat) : Int) + ((a2.n : Nat) : Int))) - a1)) ∧ ((IntKind.wrap .i64 ((IntKind.wrap .i64 (((a0.n : Nat) : Int) + ((a2.n : Nat) : Int))) - a1)) : Int) * 32 ≤ 281474976710656) ∧ az 32 4 w ⟨(ai a0.a (0) (a0.c) 4), ((a1 : Int).toNat - 0), (a0.c - 0)⟩ ((IntKind.wrap .i64 ((IntKind.wrap .i64 (((a0.n : Nat) : Int) + ((a2.n : Nat) : Int))) - a1)) : Int).toNat (aE [(0:Int), (0:Int), (0:Int), (0:Int)] ((IntKind.wrap .i64 ((IntKind.wrap .i64 (((a0.n : Nat) : Int) + ((a2.n : Nat) : Int))) - a1)) : Int).toNat) ∧ ∀ (s3 : Sl) (w4 : World), av 120 4 w ⟨(ai a0.a (0) (a0.c) 4), ((a1 : Int).toNat - 0), (a0.c - 0)⟩ ((IntKind.wrap .i64 ((IntKind.wrap .i64 (((a0.n : Nat) : Int) + ((a2.n : Nat) : Int))) - a1)) : Int).toNat (aE [(0:Int), (0:Int), (0:Int), (0:Int)] ((IntKind.wrap .i64 ((IntKind.wrap .i64 (((a0.n : Nat) : Int) + ((a2.n : Nat) : Int))) - a1)) : Int).toNat) s3 w4 →
 (0 : Int) ≤ a1 ∧ a1 ≤ ((s3.n : Nat) : Int) ∧ ∃ l5 : List Value, (l5.length = min a2.n (s3.n - (a1 : Int).toNat) * 4 ∧ Rd w4 a2.a l5 ∧ One l5 ∧ Wr w4 (ai s3.a ((a1 : Int).toNat) (s3.c) 4) l5.length) ∧ (∀ w6 : World, w6 = aA w4 (ai s3.a ((a1 : Int).toNat) (s3.c) 4) l5 →
 (0 : Int) ≤ (IntKind.wrap .i64 (a1 + ((a2.n : Nat) : Int))) ∧ (IntKind.wrap .i64 (a1 + ((a2.n : Nat) : Int))) ≤ ((s3.n : Nat) : Int) ∧ (0 : Int) ≤ a1 ∧ a1 ≤ ((a0.n : Nat) : Int) ∧ ∃ l7 : List Value, (l7.length = min (a0.n - (a1 : Int).toNat) (s3.n - ((IntKind.wrap .i64 (a1 + ((a2.n : Nat) : Int))) : Int).toNat) * 4 ∧ Rd w6.drew (ai a0.a ((a1 : Int).toNat) (a0.c) 4) l7 ∧ One l7 ∧ Wr w6.drew (ai s3.a (((IntKind.wrap .i64 (a1 + ((a2.n : Nat) : Int))) : Int).toNat) (s3.c) 4) l7.length) ∧ (∀ w8 : World, w8 = aA w6.drew (ai s3.a (((IntKind.wrap .i64 (a1 + ((a2.n : Nat) : Int))) : Int).toNat) (s3.c) 4) l7 →
 R (.returned s3) w8)))
 ((0 : Int) ≤ (IntKind.wrap .i64 (((a0.n : Nat) : Int) + ((a2.n : Nat) : Int))) ∧ (IntKind.wrap .i64 (((a0.n : Nat) : Int) + ((a2.n : Nat) : Int))) ≤ ((a0.c : Nat) : Int) ∧ (0 : Int) ≤ (IntKind.wrap .i64 (a1 + ((a2.n : Nat) : Int))) ∧ (IntKind.wrap .i64 (a1 + ((a2.n : Nat) : Int))) ≤ (((((IntKind.wrap .i64 (((a0.n : Nat) : Int) + ((a2.n : Nat) : Int))) : Int).toNat - 0) : Nat) : Int) ∧ Eu Tryz.prog 222 [a2, .slice (ai (ai a0.a (0) (a0.c) 4) (((IntKind.wrap .i64 (a1 + ((a2.n : Nat) : Int))) : Int).toNat) ((a0.c - 0)) 4) ((((IntKind.wrap .i64 (((a0.n : Nat) : Int) + ((a2.n : Nat) : Int))) : Int).toNat - 0) - ((IntKind.wrap .i64 (a1 + ((a2.n : Nat) : Int))) : Int).toNat) ((a0.c - 0) - ((IntKind.wrap .i64 (a1 + ((a2.n : Nat) : Int))) : Int).toNat)] w (fun e w9 => ∃ (b10 : Bool), e = .returned (.bool b10) ∧
 Br (!b10)
 ((0 : Int) ≤ (IntKind.wrap .i64 (a1 + ((a2.n : Nat) : Int))) ∧ (IntKind.wrap .i64 (a1 + ((a2.n : Nat) : Int))) ≤ (((((IntKind.wrap .i64 (((a0.n : Nat) : Int) + ((a2.n : Nat) : Int))) : Int).toNat - 0) : Nat) : Int) ∧ (0 : Int) ≤ a1 ∧ a1 ≤ (((((IntKind.wrap .i64 (((a0.n : Nat) : Int) + ((a2.n : Nat) : Int))) : Int).toNat - 0) : Nat) : Int) ∧ ∃ l11 : List Value, (l11.length = min ((((IntKind.wrap .i64 (((a0.n : Nat) : Int) + ((a2.n : Nat) : Int))) : Int).toNat - 0) - (a1 : Int).toNat) ((((IntKind.wrap .i64 (((a0.n : Nat) : Int) + ((a2.n : Nat) : Int))) : Int).toNat - 0) - ((IntKind.wrap .i64 (a1 + ((a2.n : Nat) : Int))) : Int).toNat) * 4 ∧ Rd w9.drew (ai (ai a0.a (0) (a0.c) 4) ((a1 : Int).toNat) ((a0.c - 0)) 4) l11 ∧ One l11 ∧ Wr w9.drew (ai (ai a0.a (0) (a0.c) 4) (((IntKind.wrap .i64 (a1 + ((a2.n : Nat) : Int))) : Int).toNat) ((a0.c - 0)) 4) l11.length) ∧ (∀ w12 : World, w12 = aA w9.drew (ai (ai a0.a (0) (a0.c) 4) (((IntKind.wrap .i64 (a1 + ((a2.n : Nat) : Int))) : Int).toNat) ((a0.c - 0)) 4) l11 →
 (0 : Int) ≤ a1 ∧ a1 ≤ (((((IntKind.wrap .i64 (((a0.n : Nat) : Int) + ((a2.n : Nat) : Int))) : Int).toNat - 0) : Nat) : Int) ∧ ∃ l13 : List Value, (l13.length = min a2.n ((((IntKind.wrap .i64 (((a0.n : Nat) : Int) + ((a2.n : Nat) : Int))) : Int).toNat - 0) - (a1 : Int).toNat) * 4 ∧ Rd w12 a2.a l13 ∧ One l13 ∧ Wr w12 (ai (ai a0.a (0) (a0.c) 4) ((a1 : Int).toNat) ((a0.c - 0)) 4) l13.length) ∧ (∀ w14 : World, w14 = aA w12 (ai (ai a0.a (0) (a0.c) 4) ((a1 : Int).toNat) ((a0.c - 0)) 4) l13 →
 R (.returned (.slice (ai a0.a (0) (a0.c) 4) (((IntKind.wrap .i64 (((a0.n : Nat) : Int) + ((a2.n : Nat) : Int))) : Int).toNat - 0) (a0.c - 0))) w14)))
 ((0 : Int) ≤ ((a0.n : Nat) : Int) ∧ ((a0.n : Nat) : Int) ≤ (((((IntKind.wrap .i64 (((a0.n : Nat) : Int) + ((a2.n : Nat) : Int))) : Int).toNat - 0) : Nat) : Int) ∧ ∃ l15 : List Value, (l15.length = min a2.n ((((IntKind.wrap .i64 (((a0.n : Nat) : Int) + ((a2.n : Nat) : Int))) : Int).toNat - 0) - (((a0.n : Nat) : Int) : Int).toNat) * 4 ∧ Rd w9 a2.a l15 ∧ One l15 ∧ Wr w9 (ai (ai a0.a (0) (a0.c) 4) ((((a0.n : Nat) : Int) : Int).toNat) ((a0.c - 0)) 4) l15.length) ∧ (∀ w16 : World, w16 = aA w9 (ai (ai a0.a (0) (a0.c) 4) ((((a0.n : Nat) : Int) : Int).toNat) ((a0.c - 0)) 4) l15 →
 (0 : Int) ≤ a1 ∧ a1 ≤ (((((IntKind.wrap .i64 (((a0.n : Nat) : Int) + ((a2.n : Nat) : Int))) : Int).toNat - 0) : Nat) : Int) ∧ Calls Tryz.prog jw #[.slice (ai (ai a0.a (0) (a0.c) 4) ((a1 : Int).toNat) ((a0.c - 0)) 4) ((((IntKind.wrap .i64 (((a0.n : Nat) : Int) + ((a2.n : Nat) : Int))) : Int).toNat - 0) - (a1 : Int).toNat) ((a0.c - 0) - (a1 : Int).toNat), .int .i64 ((a2.n : Nat) : Int)] w16 (fun e w17 => e = .returned (.tuple #[]) ∧
 R (.returned (.slice (ai a0.a (0) (a0.c) 4) (((IntKind.wrap .i64 (((a0.n : Nat) : Int) + ((a2.n : Nat) : Int))) : Int).toNat - 0) (a0.c - 0))) w17)))))))
theorem cU.vc {a0 a1 a2 w} (h : cU.pre a0 a1 a2 w R) : Calls Tryz.prog dI #[a0, a1, a2] w R :=
 cq ⟨[], [], []⟩ Tryz.func183 h
def dc.pre (a0 : Sl) (a1 : Value) (w : World) (R : Ending → World → Prop) : Prop :=
 ∃ I0 : Nat → Int → World → Prop,
 (∃ n1, I0 n1 (0) w) ∧
 ∀ (n1 : Nat) (us2 : Nat → Value) (x3 : Int) (w4 : World), I0 n1 x3 w4 →
 Br (decide (x3 < ((a0.n : Nat) : Int)))
 (cn a0.a x3 a0.n ∧ ∃ (x6 x7 x8 x9 : Int), aj w4 (ae a0.a ((x3 : Int).toNat * 4)) 0 [x6, x7, x8, x9] ∧
 a8 Tryz.prog a1 [.agg #[x6, x7, x8, x9]] w4 (fun e w10 => ∃ (CF : Bool), e = .returned (.bool CF) ∧
 Br CF
 (R (.returned x3) w10)
 (∃ n5, n5 < n1 ∧ I0 n5 ((IntKind.wrap .i64 (x3 + 1))) w10)))
 (R (.returned (.int .i64 (-1))) w4)
theorem dc.vc {a0 a1 w} (h : dc.pre a0 a1 w R) : Calls Tryz.prog cH #[a0, a1] w R :=
 cq ⟨[(2, ⟨[(8, .int .i64)], [], []⟩)], [], []⟩ Tryz.func220 h
def gr.pre (a0 : Int) (w : World) (R : Ending → World → Prop) : Prop :=
 R (.returned (.bool (a0 != a0))) w
theorem gr.vc {a0 w} (h : gr.pre a0 w R) : Calls Tryz.prog eo #[a0] w R :=
 cq ⟨[], [], []⟩ Tryz.func221 h
end Go.Proofs.YtalpkjfpmdpbiaaGreatDoor
