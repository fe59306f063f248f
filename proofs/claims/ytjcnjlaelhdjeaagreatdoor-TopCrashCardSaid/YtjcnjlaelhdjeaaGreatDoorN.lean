import Derived.Test.YtjcnjlaelhdjeaaGreatDoorG
import Derived.Test.YtjcnjlaelhdjeaaGreatDoorM
import Derived.Shelf.Vars
import Derived.Test.YtjcnjlaelhdjeaaGreatDoorE
import Derived.Test.YtjcnjlaelhdjeaaGreatDoorL
set_option linter.all false
namespace Go.Proofs.YtjcnjlaelhdjeaaGreatDoor
open Go Go.Vc Go.RowKit Go.Proofs
set_option maxRecDepth 100000
set_option maxHeartbeats 8000000
set_option linter.unusedVariables false
variable {R : Ending → World → Prop} {w : World} {a0 a1 a2 a3 a4 a5 a6 a7 a8 a9 a0_0 a0_1 a0_2 a0_3 a0_4 a0_5 a0_6 a0_7 a0_8 a0_9 a1_0 a1_1 a1_2 a1_3 a1_4 a1_5 a1_6 a1_7 a1_8 a1_9 a2_0 a2_1 a2_2 a2_3 a2_4 a2_5 a2_6 a2_7 a2_8 a2_9 a3_0 a3_1 a3_2 a3_3 a3_4 a3_5 a3_6 a3_7 a3_8 a3_9 : Int}
theorem ref03_Mod.vc (h :
 Br (a1 < 1)
 (R (0:Int) w)
 (AndL (nzC a1) (Br (decide (((Int.tmod a0 a1) : Int) < 0))
 (R ((wqq ((Int.tmod a0 a1) + a1))) w)
 (R (Value.int .i64 (Int.tmod a0 a1)) w)))) : Cal 110 #[a0, a1] w R :=
 cq an0 Tryz.func110 h
theorem ref03_Div.vc (h :
 Br (a1 < 1)
 (R (0:Int) w)
 (Cal 171 #[a0, a1] w (fun e w0 => ∃ (x1 : Int), e = x1 ∧
 R x1 w0))) : Cal 112 #[a0, a1] w R :=
 cq an0 Tryz.func112 h
theorem ref10_Ground.vc (h :
 ∃ I0 : Nat → Int → Int → World → Prop,
 (∃ n1, I0 n1 (0) (0) w) ∧
 ∀ (n1 : Nat) (us2 : Nat → Value) (x3 x4 : Int) (w5 : World), I0 n1 x3 x4 w5 →
 Br (x3 < 2)
 (∃ I7 : Nat → Int → Int → World → Prop,
 (∃ n8, I7 n8 (0) x4 w5) ∧
 ∀ (n8 : Nat) (us9 : Nat → Value) (x10 x11 : Int) (w12 : World), I7 n8 x10 x11 w12 →
 Br (x10 < 2)
 (Cal 110 #[a1, (8:Int)] w12 (fun e w14 => ∃ (x15 : Int), e = x15 ∧
 Cal 110 #[a2, (8:Int)] w14 (fun e w16 => ∃ (x17 : Int), e = x17 ∧
 Br (x3 == 0)
 (Br (x10 == 0)
 (Cal 112 #[a1, (8:Int)] w16 (fun e w18 => ∃ (x19 : Int), e = x19 ∧
 Cal 112 #[a2, (8:Int)] w18 (fun e w20 => ∃ (x21 : Int), e = x21 ∧
 Cal 111 #[a0, (wqq (x19 + x3)), (wqq (x21 + x10))] w20 (fun e w22 => ∃ (x23 : Int), e = Value.int .u64 x23 ∧
 ∃ n13, n13 < n8 ∧ I7 n13 ((wqq (x10 + 1))) ((wqq (x11 + (wqq ((wqq ((wqq (8 - x15)) * (wqq (8 - x17)))) * (wqq (Int.tmod x23 9))))))) w22))))
 (Cal 112 #[a1, (8:Int)] w16 (fun e w24 => ∃ (x25 : Int), e = x25 ∧
 Cal 112 #[a2, (8:Int)] w24 (fun e w26 => ∃ (x27 : Int), e = x27 ∧
 Cal 111 #[a0, (wqq (x25 + x3)), (wqq (x27 + x10))] w26 (fun e w28 => ∃ (x29 : Int), e = Value.int .u64 x29 ∧
 ∃ n13, n13 < n8 ∧ I7 n13 ((wqq (x10 + 1))) ((wqq (x11 + (wqq ((wqq ((wqq (8 - x15)) * x17)) * (wqq (Int.tmod x29 9))))))) w28)))))
 (Br (x10 == 0)
 (Cal 112 #[a1, (8:Int)] w16 (fun e w30 => ∃ (x31 : Int), e = x31 ∧
 Cal 112 #[a2, (8:Int)] w30 (fun e w32 => ∃ (x33 : Int), e = x33 ∧
 Cal 111 #[a0, (wqq (x31 + x3)), (wqq (x33 + x10))] w32 (fun e w34 => ∃ (x35 : Int), e = Value.int .u64 x35 ∧
 ∃ n13, n13 < n8 ∧ I7 n13 ((wqq (x10 + 1))) ((wqq (x11 + (wqq ((wqq (x15 * (wqq (8 - x17)))) * (wqq (Int.tmod x35 9))))))) w34))))
 (Cal 112 #[a1, (8:Int)] w16 (fun e w36 => ∃ (x37 : Int), e = x37 ∧
 Cal 112 #[a2, (8:Int)] w36 (fun e w38 => ∃ (x39 : Int), e = x39 ∧
 Cal 111 #[a0, (wqq (x37 + x3)), (wqq (x39 + x10))] w38 (fun e w40 => ∃ (x41 : Int), e = Value.int .u64 x41 ∧
 ∃ n13, n13 < n8 ∧ I7 n13 ((wqq (x10 + 1))) ((wqq (x11 + (wqq ((wqq (x15 * x17)) * (wqq (Int.tmod x41 9))))))) w40))))))))
 (∃ n6, n6 < n1 ∧ I0 n6 ((wqq (x3 + 1))) x11 w12))
 (R ((wqq (6 + (wqq (Int.tdiv x4 64))))) w5)) : Cal 57 #[a0, a1, a2] w R :=
 cq ⟨[(6, ⟨[(9, .int .i64), (7, .int .i64)], [], []⟩), (3, ⟨[(8, .int .i64), (7, .int .i64)], [], []⟩)], [], []⟩ Tryz.func57 h
theorem ref10_Hash.vc (h :
 R (Value.int .u64 (bXor .u64 (w64q ((bXor .u64 (w64q ((w64q ((w64q ((w64q a0) * 11400714819323198485)) + (w64q ((w64q a1) * 14029467366897019727)))) + (w64q ((w64q a2) * 1609587929392839161)))) (w64q (Int.tdiv (w64q ((w64q ((w64q ((w64q a0) * 11400714819323198485)) + (w64q ((w64q a1) * 14029467366897019727)))) + (w64q ((w64q a2) * 1609587929392839161)))) 536870912))) * 13787848793156543929)) (w64q (Int.tdiv (w64q ((bXor .u64 (w64q ((w64q ((w64q ((w64q a0) * 11400714819323198485)) + (w64q ((w64q a1) * 14029467366897019727)))) + (w64q ((w64q a2) * 1609587929392839161)))) (w64q (Int.tdiv (w64q ((w64q ((w64q ((w64q a0) * 11400714819323198485)) + (w64q ((w64q a1) * 14029467366897019727)))) + (w64q ((w64q a2) * 1609587929392839161)))) 536870912))) * 13787848793156543929)) 4294967296)))) w) : Cal 111 #[a0, a1, a2] w R :=
 cq an0 Tryz.func111 h
theorem top_cell.vc (h :
 Aw w #[a0_0, a0_1, a0_2] 23 fun w0 =>
 Aw w0 #[a0_0, a0_1, a0_2] 3 fun w1 =>
 Cal 55 #[.slice (pzq w0) 3 3] w1 (fun e w2 => ∃ (t3 : ByteArray), e = Value.string t3 ∧ Kp w w1 w2 ∧
 R (Value.string t3) w2)) : Cal 15 #[.agg #[a0_0, a0_1, a0_2]] w R :=
 cq an0 Tryz.func15 h
theorem top_alive.vc (h :
 Cal 29 #[.string (ByteArray.mk #[108, 111, 97, 100, 32, 48, 32, 48, 10, 97, 116, 32, 48, 32, 48, 32, 48])] w (fun e w0 => ∃ (t1 : ByteArray), e = Value.string t1 ∧
 R (Value.bool (strEq t1 (ByteArray.mk #[111, 107, 10, 115, 116, 111, 110, 101, 10]))) w0)) : Cal 19 #[] w R :=
 cq an0 Tryz.func19 h
theorem top_whole.vc {a0 : Addr} (h :
 ∃ (p0 : Option Addr), ld w (padd (some a0) 0) = some (.pointer p0) ∧
 Cal 39 #[p0] w (fun e w1 => ∃ (p2 : Option Addr), e = p2 ∧
 Br (p2).isNone
 (R false w1)
 (Cal 44 #[a0] w1 (fun e w3 => ∃ (p4 : Option Addr), e = p4 ∧
 Br (p4).isNone
 (R false w3)
 (∃ (p5 : Option Addr), ld w3 (padd (some a0) 0) = some (.pointer p5) ∧
 Cal 39 #[p5] w3 (fun e w6 => ∃ (p7 : Option Addr), e = p7 ∧
 Cal 58 #[p7] w6 (fun e w8 => ∃ (v9 : Value), e = v9 ∧
 AndL (fnC v9) (Br (!(isNilF v9))
 (∃ (p10 : Option Addr), ld w8 (padd (some a0) 0) = some (.pointer p10) ∧
 Cal 39 #[p10] w8 (fun e w11 => ∃ (p12 : Option Addr), e = p12 ∧
 Cal 40 #[p12] w11 (fun e w13 => ∃ (p14 : Option Addr), e = p14 ∧
 R (Value.bool (!(p14).isNone)) w13)))
 (R false w8))))))))) : Cal 23 #[a0] w R :=
 cq an0 Tryz.func23 h
theorem top_begin.vc (h :
 Cal 26 #[] w (fun e w0 => ∃ (p1 : Option Addr), e = p1 ∧
 Br (p1).isNone
 (R (Value.pointer none) w0)
 (Cal 12 #[a0, (1000:Int)] w0 (fun e w2 => ∃ (x3 : Int), e = x3 ∧
 Cal 13 #[x3] w2 (fun e w4 => ∃ (t5 : ByteArray), e = Value.string t5 ∧
 ((((ByteArray.mk #[119, 111, 114, 108, 100, 32])).size + (t5).size : Nat) : Int) ≤ IntKind.i64.max ∧ (((((ByteArray.mk #[119, 111, 114, 108, 100, 32]) ++ t5)).size + ((ByteArray.mk #[32, 57, 32, 56])).size : Nat) : Int) ≤ IntKind.i64.max ∧ Cal 14 #[p1, .string (((ByteArray.mk #[119, 111, 114, 108, 100, 32]) ++ t5) ++ (ByteArray.mk #[32, 57, 32, 56]))] w4 (fun e w6 => ∃ (t7 : ByteArray), e = Value.string t7 ∧
 Cal 14 #[p1, .string (ByteArray.mk #[108, 111, 97, 100, 32, 48, 32, 48])] w6 (fun e w8 => ∃ (t9 : ByteArray), e = Value.string t9 ∧
 Cal 14 #[p1, .string (ByteArray.mk #[108, 111, 97, 100, 32, 49, 32, 48])] w8 (fun e w10 => ∃ (t11 : ByteArray), e = Value.string t11 ∧
 Cal 14 #[p1, .string (ByteArray.mk #[108, 111, 97, 100, 32, 45, 49, 32, 48])] w10 (fun e w12 => ∃ (t13 : ByteArray), e = Value.string t13 ∧
 Cal 14 #[p1, .string (ByteArray.mk #[108, 111, 97, 100, 32, 48, 32, 49])] w12 (fun e w14 => ∃ (t15 : ByteArray), e = Value.string t15 ∧
 Cal 14 #[p1, .string (ByteArray.mk #[108, 111, 97, 100, 32, 48, 32, 45, 49])] w14 (fun e w16 => ∃ (t17 : ByteArray), e = Value.string t17 ∧
 Cal 24 #[p1] w16 (fun e w18 => ∃ (p19 : Option Addr), e = p19 ∧
 Cal 23 #[p19] w18 (fun e w20 => ∃ (b21 : Bool), e = b21 ∧
 Br (!b21)
 (R (Value.pointer none) w20)
 (R p1 w20)))))))))))))) : Cal 10 #[a0] w R :=
 cq an0 Tryz.func10 h
theorem top_TopCrash.vc (h :
 Aw w #[a1_0, a1_1, a1_2] 23 fun w0 =>
 Aw w0 #[a2_0, a2_1, a2_2] 23 fun w1 =>
 Aw w1 #[a3_0, a3_1, a3_2] 24 fun w2 =>
 Cal 10 #[a0] w2 (fun e w3 => ∃ (p4 : Option Addr), e = p4 ∧ K2 w w0 w2 w3 (
 Br (p4).isNone
 (R false w3)
 (Cal 11 #[.agg #[a1_0, a1_1, a1_2]] w3 (Ra3 fun x6 x7 x8 w5 => K2 w w0 w3 w5 (
 Aw w5 #[vzz, vzz, vzz] 23 fun w9 =>
 Sw w9 w5 #[x6, x7, x8] fun w10 =>
 Cal 11 #[.agg #[a2_0, a2_1, a2_2]] w10 (Ra3 fun x12 x13 x14 w11 => K3 w w0 w5 w10 w11 (
 Aw w11 #[vzz, vzz, vzz] 23 fun w15 =>
 Sw w15 w11 #[x12, x13, x14] fun w16 =>
 Cal 12 #[a0, (1000:Int)] w16 (Ri fun x18 w17 => K4 w w0 w5 w11 w16 w17 (
 Cal 12 #[a5, (9999:Int)] w17 (Ri fun x20 w19 => K4 w w0 w5 w11 w17 w19 (
 Cal 13 #[x20] w19 (fun e w21 => ∃ (t22 : ByteArray), e = Value.string t22 ∧ K4 w w0 w5 w11 w19 w21 (
 ((((ByteArray.mk #[99, 114, 97, 115, 104, 32])).size + (t22).size : Nat) : Int) ≤ IntKind.i64.max ∧ (0 : Int) ≤ 0 ∧ (0 : Int) < ((3 : Nat) : Int) ∧ ∃ (x23 : Int), ld w21.drew (padd (pzq w1) ((0 : Int).toNat * 1)) = some (.int .i64 x23) ∧
 Cal 15 #[.agg #[x6, x7, x8]] w21.drew (fun e w24 => ∃ (t25 : ByteArray), e = Value.string t25 ∧ K4 w w0 w5 w11 w21.drew w24 (
 LoadL w24 (padd (pzq w1) ((0 : Int).toNat * 1)) 0 [x23] ∧ ((((ByteArray.mk #[101, 100, 105, 116, 32])).size + (t25).size : Nat) : Int) ≤ IntKind.i64.max ∧ (((((ByteArray.mk #[101, 100, 105, 116, 32]) ++ t25)).size + ((ByteArray.mk #[32])).size : Nat) : Int) ≤ IntKind.i64.max ∧ Cal 17 #[x23] w24 (Ri fun x27 w26 => K4 w w0 w5 w11 w24 w26 (
 Cal 16 #[x27] w26 (fun e w28 => ∃ (t29 : ByteArray), e = Value.string t29 ∧ K4 w w0 w5 w11 w26 w28 (
 ((((((ByteArray.mk #[101, 100, 105, 116, 32]) ++ t25) ++ (ByteArray.mk #[32]))).size + (t29).size : Nat) : Int) ≤ IntKind.i64.max ∧ Cal 14 #[p4, .string ((((ByteArray.mk #[101, 100, 105, 116, 32]) ++ t25) ++ (ByteArray.mk #[32])) ++ t29)] w28 (fun e w30 => ∃ (t31 : ByteArray), e = Value.string t31 ∧ K4 w w0 w5 w11 w28 w30 (
 Cal 14 #[p4, .string ((ByteArray.mk #[99, 114, 97, 115, 104, 32]) ++ t22)] w30 (fun e w32 => ∃ (t33 : ByteArray), e = Value.string t33 ∧ K4 w w0 w5 w11 w30 w32 (
 Cal 14 #[p4, .string (ByteArray.mk #[108, 111, 97, 100, 32, 48, 32, 48])] w32 (fun e w34 => ∃ (t35 : ByteArray), e = Value.string t35 ∧ K4 w w0 w5 w11 w32 w34 (
 Cal 15 #[.agg #[x6, x7, x8]] w34.drew (fun e w36 => ∃ (t37 : ByteArray), e = Value.string t37 ∧ K4 w w0 w5 w11 w34.drew w36 (
 LoadL w36 (pzq w5) 0 [x6, x7, x8] ∧ ((((ByteArray.mk #[97, 116, 32])).size + (t37).size : Nat) : Int) ≤ IntKind.i64.max ∧ Cal 14 #[p4, .string ((ByteArray.mk #[97, 116, 32]) ++ t37)] w36 (fun e w38 => ∃ (t39 : ByteArray), e = Value.string t39 ∧ K4 w w0 w5 w11 w36 w38 (
 LoadL w38 (pzq w5) 0 [x6, x7, x8] ∧ Cal 18 #[x18, .agg #[x6, x7, x8]] w38 (Ri fun x41 w40 => K4 w w0 w5 w11 w38 w40 (
 Cal 16 #[x41] w40 (fun e w42 => ∃ (t43 : ByteArray), e = Value.string t43 ∧ K4 w w0 w5 w11 w40 w42 (
 Br (!strEq t39 t43)
 (R false w42)
 ((0 : Int) ≤ 0 ∧ (0 : Int) < ((3 : Nat) : Int) ∧ ∃ (x44 : Int), ld w42.drew (padd (pzq w1) ((0 : Int).toNat * 1)) = some (.int .i64 x44) ∧
 Cal 15 #[.agg #[x6, x7, x8]] w42.drew (fun e w45 => ∃ (t46 : ByteArray), e = Value.string t46 ∧ K4 w w0 w5 w11 w42.drew w45 (
 LoadL w45 (padd (pzq w1) ((0 : Int).toNat * 1)) 0 [x44] ∧ ((((ByteArray.mk #[101, 100, 105, 116, 32])).size + (t46).size : Nat) : Int) ≤ IntKind.i64.max ∧ (((((ByteArray.mk #[101, 100, 105, 116, 32]) ++ t46)).size + ((ByteArray.mk #[32])).size : Nat) : Int) ≤ IntKind.i64.max ∧ Cal 17 #[x44] w45 (Ri fun x48 w47 => K4 w w0 w5 w11 w45 w47 (
 Cal 16 #[x48] w47 (fun e w49 => ∃ (t50 : ByteArray), e = Value.string t50 ∧ K4 w w0 w5 w11 w47 w49 (
 ((((((ByteArray.mk #[101, 100, 105, 116, 32]) ++ t46) ++ (ByteArray.mk #[32]))).size + (t50).size : Nat) : Int) ≤ IntKind.i64.max ∧ Cal 14 #[p4, .string ((((ByteArray.mk #[101, 100, 105, 116, 32]) ++ t46) ++ (ByteArray.mk #[32])) ++ t50)] w49 (fun e w51 => ∃ (t52 : ByteArray), e = Value.string t52 ∧ K4 w w0 w5 w11 w49 w51 (
 Cal 14 #[p4, .string (ByteArray.mk #[102, 108, 117, 115, 104, 32, 48, 32, 48])] w51 (fun e w53 => ∃ (t54 : ByteArray), e = Value.string t54 ∧ K4 w w0 w5 w11 w51 w53 (
 Br (!strEq t54 (ByteArray.mk #[111, 107]))
 (R false w53)
 (Cal 15 #[.agg #[x6, x7, x8]] w53.drew (fun e w55 => ∃ (t56 : ByteArray), e = Value.string t56 ∧ K4 w w0 w5 w11 w53.drew w55 (
 LoadL w55 (pzq w11) 0 [x12, x13, x14] ∧ ((((ByteArray.mk #[97, 116, 32])).size + (t56).size : Nat) : Int) ≤ IntKind.i64.max ∧ Cal 14 #[p4, .string ((ByteArray.mk #[97, 116, 32]) ++ t56)] w55 (fun e w57 => ∃ (t58 : ByteArray), e = Value.string t58 ∧ K4 w w0 w5 w11 w55 w57 (
 LoadL w57 (pzq w11) 0 [x12, x13, x14] ∧ Cal 15 #[.agg #[x12, x13, x14]] w57 (fun e w59 => ∃ (t60 : ByteArray), e = Value.string t60 ∧ K4 w w0 w5 w11 w57 w59 (
 ((((ByteArray.mk #[97, 116, 32])).size + (t60).size : Nat) : Int) ≤ IntKind.i64.max ∧ Cal 14 #[p4, .string ((ByteArray.mk #[97, 116, 32]) ++ t60)] w59 (fun e w61 => ∃ (t62 : ByteArray), e = Value.string t62 ∧ K4 w w0 w5 w11 w59 w61 (
 Aw w61 #[.string t58, .string t62] 9 fun w63 =>
 (0 : Int) ≤ 1 ∧ (1 : Int) < ((3 : Nat) : Int) ∧ ∃ (x64 : Int), ld w63.drew (padd (pzq w1) ((1 : Int).toNat * 1)) = some (.int .i64 x64) ∧
 Cal 15 #[.agg #[x6, x7, x8]] w63.drew (fun e w65 => ∃ (t66 : ByteArray), e = Value.string t66 ∧ K5 w w0 w5 w11 w61 w63.drew w65 (
 LoadL w65 (padd (pzq w1) ((1 : Int).toNat * 1)) 0 [x64] ∧ ((((ByteArray.mk #[101, 100, 105, 116, 32])).size + (t66).size : Nat) : Int) ≤ IntKind.i64.max ∧ (((((ByteArray.mk #[101, 100, 105, 116, 32]) ++ t66)).size + ((ByteArray.mk #[32])).size : Nat) : Int) ≤ IntKind.i64.max ∧ Cal 17 #[x64] w65 (Ri fun x68 w67 => K5 w w0 w5 w11 w61 w65 w67 (
 Cal 16 #[x68] w67 (fun e w69 => ∃ (t70 : ByteArray), e = Value.string t70 ∧ K5 w w0 w5 w11 w61 w67 w69 (
 ((((((ByteArray.mk #[101, 100, 105, 116, 32]) ++ t66) ++ (ByteArray.mk #[32]))).size + (t70).size : Nat) : Int) ≤ IntKind.i64.max ∧ Cal 14 #[p4, .string ((((ByteArray.mk #[101, 100, 105, 116, 32]) ++ t66) ++ (ByteArray.mk #[32])) ++ t70)] w69 (fun e w71 => ∃ (t72 : ByteArray), e = Value.string t72 ∧ K5 w w0 w5 w11 w61 w69 w71 (
 (0 : Int) ≤ 2 ∧ (2 : Int) < ((3 : Nat) : Int) ∧ ∃ (x73 : Int), ld w71.drew (padd (pzq w1) ((2 : Int).toNat * 1)) = some (.int .i64 x73) ∧
 Cal 15 #[.agg #[x12, x13, x14]] w71.drew (fun e w74 => ∃ (t75 : ByteArray), e = Value.string t75 ∧ K5 w w0 w5 w11 w61 w71.drew w74 (
 LoadL w74 (padd (pzq w1) ((2 : Int).toNat * 1)) 0 [x73] ∧ ((((ByteArray.mk #[101, 100, 105, 116, 32])).size + (t75).size : Nat) : Int) ≤ IntKind.i64.max ∧ (((((ByteArray.mk #[101, 100, 105, 116, 32]) ++ t75)).size + ((ByteArray.mk #[32])).size : Nat) : Int) ≤ IntKind.i64.max ∧ Cal 17 #[x73] w74 (Ri fun x77 w76 => K5 w w0 w5 w11 w61 w74 w76 (
 Cal 16 #[x77] w76 (fun e w78 => ∃ (t79 : ByteArray), e = Value.string t79 ∧ K5 w w0 w5 w11 w61 w76 w78 (
 ((((((ByteArray.mk #[101, 100, 105, 116, 32]) ++ t75) ++ (ByteArray.mk #[32]))).size + (t79).size : Nat) : Int) ≤ IntKind.i64.max ∧ Cal 14 #[p4, .string ((((ByteArray.mk #[101, 100, 105, 116, 32]) ++ t75) ++ (ByteArray.mk #[32])) ++ t79)] w78 (fun e w80 => ∃ (t81 : ByteArray), e = Value.string t81 ∧ K5 w w0 w5 w11 w61 w78 w80 (
 Cal 15 #[.agg #[x6, x7, x8]] w80.drew (fun e w82 => ∃ (t83 : ByteArray), e = Value.string t83 ∧ K5 w w0 w5 w11 w61 w80.drew w82 (
 LoadL w82 (pzq w11) 0 [x12, x13, x14] ∧ ((((ByteArray.mk #[97, 116, 32])).size + (t83).size : Nat) : Int) ≤ IntKind.i64.max ∧ Cal 14 #[p4, .string ((ByteArray.mk #[97, 116, 32]) ++ t83)] w82 (fun e w84 => ∃ (t85 : ByteArray), e = Value.string t85 ∧ K5 w w0 w5 w11 w61 w82 w84 (
 LoadL w84 (pzq w11) 0 [x12, x13, x14] ∧ Cal 15 #[.agg #[x12, x13, x14]] w84 (fun e w86 => ∃ (t87 : ByteArray), e = Value.string t87 ∧ K5 w w0 w5 w11 w61 w84 w86 (
 ((((ByteArray.mk #[97, 116, 32])).size + (t87).size : Nat) : Int) ≤ IntKind.i64.max ∧ Cal 14 #[p4, .string ((ByteArray.mk #[97, 116, 32]) ++ t87)] w86 (fun e w88 => ∃ (t89 : ByteArray), e = Value.string t89 ∧ K5 w w0 w5 w11 w61 w86 w88 (
 Aw w88 #[.string t85, .string t89] 9 fun w90 =>
 Cal 12 #[a4, (5:Int)] w90 (Ri fun x92 w91 => K6 w w0 w5 w11 w61 w88 w90 w91 (
 Cal 13 #[(wqq (x92 - 2))] w91 (fun e w93 => ∃ (t94 : ByteArray), e = Value.string t94 ∧ K6 w w0 w5 w11 w61 w88 w91 w93 (
 ((((ByteArray.mk #[102, 97, 105, 108, 32])).size + (t94).size : Nat) : Int) ≤ IntKind.i64.max ∧ Cal 14 #[p4, .string ((ByteArray.mk #[102, 97, 105, 108, 32]) ++ t94)] w93 (fun e w95 => ∃ (t96 : ByteArray), e = Value.string t96 ∧ K6 w w0 w5 w11 w61 w88 w93 w95 (
 Cal 14 #[p4, .string (ByteArray.mk #[102, 108, 117, 115, 104, 32, 48, 32, 48])] w95 (fun e w97 => ∃ (t98 : ByteArray), e = Value.string t98 ∧ K6 w w0 w5 w11 w61 w88 w95 w97 (
 Cal 14 #[p4, .string ((ByteArray.mk #[99, 114, 97, 115, 104, 32]) ++ t22)] w97 (fun e w99 => ∃ (t100 : ByteArray), e = Value.string t100 ∧ K6 w w0 w5 w11 w61 w88 w97 w99 (
 Cal 14 #[p4, .string (ByteArray.mk #[108, 111, 97, 100, 32, 48, 32, 48])] w99 (fun e w101 => ∃ (t102 : ByteArray), e = Value.string t102 ∧ K6 w w0 w5 w11 w61 w88 w99 w101 (
 Cal 15 #[.agg #[x6, x7, x8]] w101.drew (fun e w103 => ∃ (t104 : ByteArray), e = Value.string t104 ∧ K6 w w0 w5 w11 w61 w88 w101.drew w103 (
 LoadL w103 (pzq w11) 0 [x12, x13, x14] ∧ ((((ByteArray.mk #[97, 116, 32])).size + (t104).size : Nat) : Int) ≤ IntKind.i64.max ∧ Cal 14 #[p4, .string ((ByteArray.mk #[97, 116, 32]) ++ t104)] w103 (fun e w105 => ∃ (t106 : ByteArray), e = Value.string t106 ∧ K6 w w0 w5 w11 w61 w88 w103 w105 (
 LoadL w105 (pzq w11) 0 [x12, x13, x14] ∧ Cal 15 #[.agg #[x12, x13, x14]] w105 (fun e w107 => ∃ (t108 : ByteArray), e = Value.string t108 ∧ K6 w w0 w5 w11 w61 w88 w105 w107 (
 ((((ByteArray.mk #[97, 116, 32])).size + (t108).size : Nat) : Int) ≤ IntKind.i64.max ∧ Cal 14 #[p4, .string ((ByteArray.mk #[97, 116, 32]) ++ t108)] w107 (fun e w109 => ∃ (t110 : ByteArray), e = Value.string t110 ∧ K6 w w0 w5 w11 w61 w88 w107 w109 (
 Aw w109 #[.string t106, .string t110] 9 fun w111 =>
 InB (pzq w109) 0 2 ∧ ∃ (t112 : ByteArray), ld w111.drew (padd (pzq w109) ((0 : Int).toNat * 1)) = some (.string t112) ∧
 InB (pzq w61) 0 2 ∧ ∃ (t113 : ByteArray), ld w111.drew (padd (pzq w61) ((0 : Int).toNat * 1)) = some (.string t113) ∧
 Br (strEq t112 t113)
 (InB (pzq w109) 1 2 ∧ ∃ (t114 : ByteArray), ld w111.drew (padd (pzq w109) ((1 : Int).toNat * 1)) = some (.string t114) ∧
 InB (pzq w61) 1 2 ∧ ∃ (t115 : ByteArray), ld w111.drew (padd (pzq w61) ((1 : Int).toNat * 1)) = some (.string t115) ∧
 InB (pzq w109) 0 2 ∧ ∃ (t116 : ByteArray), ld w111.drew.drew (padd (pzq w109) ((0 : Int).toNat * 1)) = some (.string t116) ∧
 InB (pzq w88) 0 2 ∧ ∃ (t117 : ByteArray), ld w111.drew.drew (padd (pzq w88) ((0 : Int).toNat * 1)) = some (.string t117) ∧
 Br (strEq t116 t117)
 (InB (pzq w109) 1 2 ∧ ∃ (t118 : ByteArray), ld w111.drew.drew (padd (pzq w109) ((1 : Int).toNat * 1)) = some (.string t118) ∧
 InB (pzq w88) 1 2 ∧ ∃ (t119 : ByteArray), ld w111.drew.drew (padd (pzq w88) ((1 : Int).toNat * 1)) = some (.string t119) ∧
 Br (strEq t98 (ByteArray.mk #[111, 107]))
 (Br (strEq t118 t119)
 (Cal 19 #[] w111.drew.drew (Rb fun b121 w120 => w120.heap[w.heap.size]? = w111.drew.drew.heap[w.heap.size]? ∧ w120.heap[w0.heap.size]? = w111.drew.drew.heap[w0.heap.size]? ∧ w120.heap[w5.heap.size]? = w111.drew.drew.heap[w5.heap.size]? ∧ w120.heap[w11.heap.size]? = w111.drew.drew.heap[w11.heap.size]? ∧ w120.heap[w61.heap.size]? = w111.drew.drew.heap[w61.heap.size]? ∧ w120.heap[w88.heap.size]? = w111.drew.drew.heap[w88.heap.size]? ∧ w120.heap[w109.heap.size]? = w111.drew.drew.heap[w109.heap.size]? ∧
 R b121 w120))
 (R false w111.drew.drew))
 (Br (strEq t114 t115)
 (Cal 19 #[] w111.drew.drew (Rb fun b123 w122 => w122.heap[w.heap.size]? = w111.drew.drew.heap[w.heap.size]? ∧ w122.heap[w0.heap.size]? = w111.drew.drew.heap[w0.heap.size]? ∧ w122.heap[w5.heap.size]? = w111.drew.drew.heap[w5.heap.size]? ∧ w122.heap[w11.heap.size]? = w111.drew.drew.heap[w11.heap.size]? ∧ w122.heap[w61.heap.size]? = w111.drew.drew.heap[w61.heap.size]? ∧ w122.heap[w88.heap.size]? = w111.drew.drew.heap[w88.heap.size]? ∧ w122.heap[w109.heap.size]? = w111.drew.drew.heap[w109.heap.size]? ∧
 R b123 w122))
 (Br (strEq t118 t119)
 (Cal 19 #[] w111.drew.drew (Rb fun b125 w124 => w124.heap[w.heap.size]? = w111.drew.drew.heap[w.heap.size]? ∧ w124.heap[w0.heap.size]? = w111.drew.drew.heap[w0.heap.size]? ∧ w124.heap[w5.heap.size]? = w111.drew.drew.heap[w5.heap.size]? ∧ w124.heap[w11.heap.size]? = w111.drew.drew.heap[w11.heap.size]? ∧ w124.heap[w61.heap.size]? = w111.drew.drew.heap[w61.heap.size]? ∧ w124.heap[w88.heap.size]? = w111.drew.drew.heap[w88.heap.size]? ∧ w124.heap[w109.heap.size]? = w111.drew.drew.heap[w109.heap.size]? ∧
 R b125 w124))
 (R false w111.drew.drew))))
 (Br (strEq t98 (ByteArray.mk #[111, 107]))
 (R false w111.drew.drew)
 (Br (strEq t114 t115)
 (Cal 19 #[] w111.drew.drew (Rb fun b127 w126 => w126.heap[w.heap.size]? = w111.drew.drew.heap[w.heap.size]? ∧ w126.heap[w0.heap.size]? = w111.drew.drew.heap[w0.heap.size]? ∧ w126.heap[w5.heap.size]? = w111.drew.drew.heap[w5.heap.size]? ∧ w126.heap[w11.heap.size]? = w111.drew.drew.heap[w11.heap.size]? ∧ w126.heap[w61.heap.size]? = w111.drew.drew.heap[w61.heap.size]? ∧ w126.heap[w88.heap.size]? = w111.drew.drew.heap[w88.heap.size]? ∧ w126.heap[w109.heap.size]? = w111.drew.drew.heap[w109.heap.size]? ∧
 R b127 w126))
 (R false w111.drew.drew))))
 (InB (pzq w109) 0 2 ∧ ∃ (t128 : ByteArray), ld w111.drew.drew (padd (pzq w109) ((0 : Int).toNat * 1)) = some (.string t128) ∧
 InB (pzq w88) 0 2 ∧ ∃ (t129 : ByteArray), ld w111.drew.drew (padd (pzq w88) ((0 : Int).toNat * 1)) = some (.string t129) ∧
 Br (strEq t128 t129)
 (InB (pzq w109) 1 2 ∧ ∃ (t130 : ByteArray), ld w111.drew.drew (padd (pzq w109) ((1 : Int).toNat * 1)) = some (.string t130) ∧
 InB (pzq w88) 1 2 ∧ ∃ (t131 : ByteArray), ld w111.drew.drew (padd (pzq w88) ((1 : Int).toNat * 1)) = some (.string t131) ∧
 Br (strEq t98 (ByteArray.mk #[111, 107]))
 (Br (strEq t130 t131)
 (Cal 19 #[] w111.drew.drew (Rb fun b133 w132 => w132.heap[w.heap.size]? = w111.drew.drew.heap[w.heap.size]? ∧ w132.heap[w0.heap.size]? = w111.drew.drew.heap[w0.heap.size]? ∧ w132.heap[w5.heap.size]? = w111.drew.drew.heap[w5.heap.size]? ∧ w132.heap[w11.heap.size]? = w111.drew.drew.heap[w11.heap.size]? ∧ w132.heap[w61.heap.size]? = w111.drew.drew.heap[w61.heap.size]? ∧ w132.heap[w88.heap.size]? = w111.drew.drew.heap[w88.heap.size]? ∧ w132.heap[w109.heap.size]? = w111.drew.drew.heap[w109.heap.size]? ∧
 R b133 w132))
 (R false w111.drew.drew))
 (Br (strEq t130 t131)
 (Cal 19 #[] w111.drew.drew (Rb fun b135 w134 => w134.heap[w.heap.size]? = w111.drew.drew.heap[w.heap.size]? ∧ w134.heap[w0.heap.size]? = w111.drew.drew.heap[w0.heap.size]? ∧ w134.heap[w5.heap.size]? = w111.drew.drew.heap[w5.heap.size]? ∧ w134.heap[w11.heap.size]? = w111.drew.drew.heap[w11.heap.size]? ∧ w134.heap[w61.heap.size]? = w111.drew.drew.heap[w61.heap.size]? ∧ w134.heap[w88.heap.size]? = w111.drew.drew.heap[w88.heap.size]? ∧ w134.heap[w109.heap.size]? = w111.drew.drew.heap[w109.heap.size]? ∧
 R b135 w134))
 (R false w111.drew.drew)))
 (Br (strEq t98 (ByteArray.mk #[111, 107]))
 (R false w111.drew.drew)
 (R false w111.drew.drew))))))))))))))))))))))))))))))))))))))))))))))))))))))))))))))))))))))))))))))))))))))))))))))))))))) : Cal 3 #[a0, .agg #[a1_0, a1_1, a1_2], .agg #[a2_0, a2_1, a2_2], .agg #[a3_0, a3_1, a3_2], a4, a5] w R :=
 cq an0 Tryz.func3 h
end Go.Proofs.YtjcnjlaelhdjeaaGreatDoor
namespace Go.Proofs.YtjcnjlaelhdjeaaGreatDoor
open Go Go.Vc Go.RowKit Go.Proofs
set_option maxRecDepth 100000
set_option maxHeartbeats 8000000
set_option linter.unusedVariables false
variable {R : Ending → World → Prop} {w : World} {a0 a1 a2 a3 a4 a5 a6 a7 a8 a9 a0_0 a0_1 a0_2 a0_3 a0_4 a0_5 a0_6 a0_7 a0_8 a0_9 a1_0 a1_1 a1_2 a1_3 a1_4 a1_5 a1_6 a1_7 a1_8 a1_9 a2_0 a2_1 a2_2 a2_3 a2_4 a2_5 a2_6 a2_7 a2_8 a2_9 a3_0 a3_1 a3_2 a3_3 a3_4 a3_5 a3_6 a3_7 a3_8 a3_9 : Int}
end Go.Proofs.YtjcnjlaelhdjeaaGreatDoor
namespace Go.Proofs.YtjcnjlaelhdjeaaGreatDoor
open Go Go.Vc Go.RowKit Go.Proofs Go.Lin Go.Chk Go.Runs Go.Code Go.Que Go.Flw Go.Eng
set_option linter.unusedVariables false
theorem ref04_Name_spec (b : Int) (w : World) (hb : inI b) : Cal 16 #[b] w fun e w' => e = Value.string (bName b) ∧ Ext w w' := by
 apply ref04_Name.vc
 refine (ref04_May_spec b w).mono ?_
 rintro e w' ⟨rfl, rfl⟩
 refine ⟨_, rfl, Br.mk (fun h => ?_) (fun h => Br.mk (fun h2 => ?_) (fun h2 => ?_))⟩
 ·have : bName b = ⟨#[]⟩ := by
   have := bMay_iff b
   cases hm : bMay b <;> simp_all
  rw [this]; exact ⟨rfl, Ext.rfl' _⟩
 ·simp at h h2
  have hm := h
  unfold bMay at hm
  simp at hm
  unfold inI at hb
  rw [wI, wI]
  have : b = 8 ∨ b = 9 ∨ b = 10 ∨ b = 11 ∨ b = 12 ∨ b = 13 ∨ b = 14 ∨ b = 15 := by omega
  refine ⟨by omega, ?_, by omega, by omega, ?_, ?_, Ext.rfl' _⟩
  ·show b - 7 ≤ 8
   omega
  ·have : IntKind.i64.max = 9223372036854775807 := by decide
   rcases ‹b = 8 ∨ _› with rfl | rfl | rfl | rfl | rfl | rfl | rfl | rfl <;> decide
  ·rcases this with rfl | rfl | rfl | rfl | rfl | rfl | rfl | rfl <;> (congr 2)
 ·simp at h h2
  have hm := h
  unfold bMay at hm
  simp at hm
  intro w2 hw2
  have r2 : Row w2 w'.heap.size ((nmT.take 6).map .string) 9 := by rw [hw2]; exact Row.new w' ((nmT.take 6).map .string) 9
  refine ⟨⟨rfl, by omega, by omega⟩, bName b, ?_, rfl, (eaa hw2)⟩
  rw [padd_row, r2.ld]
  have : b = 0 ∨ b = 1 ∨ b = 2 ∨ b = 3 ∨ b = 4 ∨ b = 5 := by omega
  rcases this with rfl | rfl | rfl | rfl | rfl | rfl <;> rfl
def Wd (t : ByteArray) : Prop := bl t ≠ [] ∧ ∀ c ∈ bl t, c ≠ 32
def decT (n : Int) : ByteArray := ⟨(decL 2 n).toArray⟩
theorem dec_num {n : Int} (h : 0 ≤ n ∧ n < 32) : numK (decT n) = (n, true) ∧ (decL 2 n ≠ [] ∧ (decL 2 n).all (fun c => c != 32)) ∧ (decT n).size ≤ 10 := by
 have : ∀ i : Fin 32, numK (decT (i.val : Int)) = ((i.val : Int), true) ∧ (decL 2 (i.val : Int) ≠ [] ∧ (decL 2 (i.val : Int)).all (fun c => c != 32)) ∧ (decT (i.val : Int)).size ≤ 10 := by decide +kernel
 have h1 := this ⟨n.toNat, by omega⟩
 have e : ((n.toNat : Nat) : Int) = n := by omega
 simp only [e] at h1
 exact h1
theorem dec_wd {n : Int} (h : 0 ≤ n ∧ n < 32) : Wd (decT n) := by
 obtain ⟨-, ⟨h1, h2⟩, -⟩ := dec_num h
 exact ⟨h1, fun c hc => by have := alj10.1 h2 c hc; simpa using this⟩
theorem name_all {b : Int} (h : 0 ≤ b ∧ b ≤ 15) (hm : bMay b = true) : (pRes (bName b) = (b, true) ∧ bl (bName b) ≠ [] ∧ (bl (bName b)).all (fun c => c != 32)) ∧ (bName b).size ≤ 10 := by
 have : ∀ i : Fin 16, bMay (i.val : Int) = true → (pRes (bName (i.val : Int)) = ((i.val : Int), true) ∧ bl (bName (i.val : Int)) ≠ [] ∧ (bl (bName (i.val : Int))).all (fun c => c != 32)) ∧ (bName (i.val : Int)).size ≤ 10 := by decide +kernel
 have h1 := this ⟨b.toNat, by omega⟩
 have e : ((b.toNat : Nat) : Int) = b := by omega
 simp only [e] at h1
 exact h1 hm
theorem name_wd {b : Int} (h : 0 ≤ b ∧ b ≤ 15) (hm : bMay b = true) : Wd (bName b) := by
 obtain ⟨⟨-, h1, h2⟩, -⟩ := name_all h hm
 exact ⟨h1, fun c hc => by have := alj10.1 h2 c hc; simpa using this⟩
theorem pVec_of {x y z : Int} {a b c : ByteArray} {r : List ByteArray} (ha : numK a = (x, true)) (hb : numK b = (y, true)) (hc : numK c = (z, true)) : pVec (a :: b :: c :: r) = some ((x, y, z), r) := by
 unfold pVec pNum pWord
 simp only [ha, hb, hc, if_true]
theorem pBlk_of {t : ByteArray} {b : Int} {r : List ByteArray} (h : pRes t = (b, true)) : pBlk (t :: r) = some (b, r) := by
 unfold pBlk pWord
 simp only [h, if_true]
end Go.Proofs.YtjcnjlaelhdjeaaGreatDoor
namespace Go.Proofs.YtjcnjlaelhdjeaaGreatDoor
open Go Go.Vc Go.RowKit Go.Proofs Go.Lin Go.Chk Go.Runs Go.Code Go.Que Go.Flw Go.Eng
set_option linter.unusedVariables false
theorem le_max {n : Nat} (h : n ≤ 1000) : ((n : Nat) : Int) ≤ IntKind.i64.max := by
 have : IntKind.i64.max = 9223372036854775807 := by decide
 omega
theorem held_none (c : Ce) : heldL noL c = false := by
 unfold heldL noL
 rw [List.any_eq_false]
 intro x hx
 rw [List.eq_of_mem_replicate hx]
 simp [meetL]
theorem okL_none (m : Int) : okL m noL := fun y hy => by cases List.eq_of_mem_replicate hy
end Go.Proofs.YtjcnjlaelhdjeaaGreatDoor
namespace Go.Proofs.YtjcnjlaelhdjeaaGreatDoor
open Go Go.Vc Go.RowKit Go.Proofs
set_option maxRecDepth 100000
set_option maxHeartbeats 8000000
set_option linter.unusedVariables false
variable {R : Ending → World → Prop} {w : World} {a0 a1 a2 a3 a4 a5 a6 a7 a8 a9 a0_0 a0_1 a0_2 a0_3 a0_4 a0_5 a0_6 a0_7 a0_8 a0_9 a1_0 a1_1 a1_2 a1_3 a1_4 a1_5 a1_6 a1_7 a1_8 a1_9 a2_0 a2_1 a2_2 a2_3 a2_4 a2_5 a2_6 a2_7 a2_8 a2_9 a3_0 a3_1 a3_2 a3_3 a3_4 a3_5 a3_6 a3_7 a3_8 a3_9 : Int}
end Go.Proofs.YtjcnjlaelhdjeaaGreatDoor
namespace Go.Proofs.YtjcnjlaelhdjeaaGreatDoor
open Go Go.Vc Go.RowKit Go.Proofs Go.Lin Go.Chk Go.Runs Go.Code
set_option linter.unusedVariables false
theorem maxLen_is {w : World} (h : w.ShapedOpen Tryz.prog) : ∃ m, w.cell? ⟨0, 0, none⟩ = some (.int .i64 m) :=
 cell_of_shapedOpen_int (t := 3) (zero := #[vzz]) h (by decide +kernel) (by kernel_rfl) rfl (by kernel_rfl) (by kernel_rfl) Tryz.underlying3
end Go.Proofs.YtjcnjlaelhdjeaaGreatDoor
namespace Go.Proofs.YtjcnjlaelhdjeaaGreatDoor
open Go Go.Vc Go.RowKit Go.Proofs Go.Lin Go.Chk Go.Runs Go.Code Go.Que Go.Flw Go.Eng
set_option linter.unusedVariables false
theorem str_yes {x y : ByteArray} (h : x = y) : (!strEq x y) = false := by rw [(strEq_iff x y).2 h]; rfl
end Go.Proofs.YtjcnjlaelhdjeaaGreatDoor
namespace Go.Proofs.YtjcnjlaelhdjeaaGreatDoor
open Go Go.Vc Go.RowKit Go.Proofs Go.Lin Go.Chk Go.Runs Go.Code Go.Que Go.Flw Go.Eng
set_option linter.unusedVariables false
theorem rMod_spec (a b : Int) (hb : 0 < b) (hb' : b ≤ 1000000) (w : World) : Cal 110 #[a, b] w fun e w' => e = Value.int .i64 (a % b) ∧ w' = w := by
 apply ref03_Mod.vc
 obtain ⟨h1, h2, h3, h4⟩ := tdm (a := a) hb
 refine Br.mk (fun h => ?_) (fun _ => AndL_iff.2 ⟨nzC_iff.2 omm, Br.mk (fun h => ?_) (fun h => ?_)⟩)
 ·simp only [ali27] at h; omega
 ·replace h := q0T h
  rw [wI, ← (h1 h).2]; exact ⟨rfl, rfl⟩
 ·replace h := q0F h
  rw [← (h2 omm).2]; exact ⟨rfl, rfl⟩
theorem rDiv_spec (a b : Int) (ha : inI a) (hb : 0 < b) (w : World) : Cal 112 #[a, b] w fun e w' => e = Value.int .i64 (a / b) ∧ w' = w := by
 apply ref03_Div.vc
 refine Br.mk (fun h => ?_) (fun _ => (rDiv1_spec a b ha hb w).mono ?_)
 ·simp only [ali27] at h; omega
 ·rintro e w0 ⟨rfl, rfl⟩
  exact ⟨_, rfl, rfl, rfl⟩
theorem rHash_spec (s x z : Int) (w : World) : Cal 111 #[s, x, z] w fun e w' => e = Value.int .u64 (hash s x z) ∧ w' = w := by
 apply ref10_Hash.vc
 rw [dv29, dv32]
 exact ⟨rfl, rfl⟩
theorem rGround_spec (s x z : Int) (hx : inI x) (hz : inI z) (w : World) : Cal 57 #[s, x, z] w fun e w' => e = Value.int .i64 (ground s x z) ∧ Ext w w' := by
 apply ref10_Ground.vc
 have hdx : inI (x / 8 + 1) ∧ inI (x / 8) := by unfold inI at *; omega
 have hdz : inI (z / 8 + 1) ∧ inI (z / 8) := by unfold inI at *; omega
 have a := mul_bd (corner_in s (x / 8) (z / 8)) (u := 8 - x % 8) (v := 8 - z % 8) omm omm
 have b := mul_bd (corner_in s (x / 8 + 1) (z / 8)) (u := x % 8) (v := 8 - z % 8) omm omm
 have c := mul_bd (corner_in s (x / 8) (z / 8 + 1)) (u := 8 - x % 8) (v := z % 8) omm omm
 have d := mul_bd (corner_in s (x / 8 + 1) (z / 8 + 1)) (u := x % 8) (v := z % 8) omm omm
 have q1 : wqq (8 - x % 8) = 8 - x % 8 := wI
 have q2 : wqq (8 - z % 8) = 8 - z % 8 := wI
 have hg := ground_in s x z
 have e1 : ground s x z = 6 + (corner s (x / 8) (z / 8) * ((8 - x % 8) * (8 - z % 8)) + corner s (x / 8 + 1) (z / 8) * (x % 8 * (8 - z % 8)) + corner s (x / 8) (z / 8 + 1) * ((8 - x % 8) * (z % 8)) + corner s (x / 8 + 1) (z / 8 + 1) * (x % 8 * (z % 8))) / 64 := rfl
 have m1 : wqq ((8 - x % 8) * (8 - z % 8)) = (8 - x % 8) * (8 - z % 8) := wI
 have m2 : wqq (x % 8 * (8 - z % 8)) = x % 8 * (8 - z % 8) := wI
 have m3 : wqq ((8 - x % 8) * (z % 8)) = (8 - x % 8) * (z % 8) := wI
 have m4 : wqq (x % 8 * (z % 8)) = x % 8 * (z % 8) := wI
 have k1 := Int.mul_comm (corner s (x / 8) (z / 8)) ((8 - x % 8) * (8 - z % 8))
 have k2 := Int.mul_comm (corner s (x / 8 + 1) (z / 8)) (x % 8 * (8 - z % 8))
 have k3 := Int.mul_comm (corner s (x / 8) (z / 8 + 1)) ((8 - x % 8) * (z % 8))
 have k4 := Int.mul_comm (corner s (x / 8 + 1) (z / 8 + 1)) (x % 8 * (z % 8))
 refine ⟨fun n i t wr => w = wr ∧ ((i = 0 ∧ t = 0 ∧ n = 2) ∨ (i = 1 ∧ t = corner s (x / 8) (z / 8) * ((8 - x % 8) * (8 - z % 8)) + corner s (x / 8) (z / 8 + 1) * ((8 - x % 8) * (z % 8)) ∧ n = 1) ∨ (i = 2 ∧ t = corner s (x / 8) (z / 8) * ((8 - x % 8) * (8 - z % 8)) + corner s (x / 8) (z / 8 + 1) * ((8 - x % 8) * (z % 8)) + corner s (x / 8 + 1) (z / 8) * (x % 8 * (8 - z % 8)) + corner s (x / 8 + 1) (z / 8 + 1) * (x % 8 * (z % 8)) ∧ n = 0)), ⟨2, rfl, .inl ⟨rfl, rfl, rfl⟩⟩, ?_⟩
 rintro n us i t wr ⟨rfl, hi⟩
 apply Br.mk <;> intro hc
 ·replace hc := q0T hc
  refine ⟨fun n' k t' wr => w = wr ∧ ((k = 0 ∧ t' = t ∧ n' = 2) ∨ (k = 1 ∧ n' = 1 ∧ t' = t + (if i = 0 then corner s (x / 8) (z / 8) * ((8 - x % 8) * (8 - z % 8)) else corner s (x / 8 + 1) (z / 8) * (x % 8 * (8 - z % 8)))) ∨ (k = 2 ∧ n' = 0 ∧ t' = t + (if i = 0 then corner s (x / 8) (z / 8) * ((8 - x % 8) * (8 - z % 8)) else corner s (x / 8 + 1) (z / 8) * (x % 8 * (8 - z % 8))) + (if i = 0 then corner s (x / 8) (z / 8 + 1) * ((8 - x % 8) * (z % 8)) else corner s (x / 8 + 1) (z / 8 + 1) * (x % 8 * (z % 8))))), ⟨2, rfl, .inl ⟨rfl, rfl, rfl⟩⟩, ?_⟩
  rintro n2 us k t' wr ⟨rfl, hk⟩
  have hi01 : i = 0 ∨ i = 1 := by omega
  apply Br.mk <;> intro hc2
  ·replace hc2 := q0T hc2
   refine (rMod_spec x 8 dcc dcc w).mono ?_
   rintro e w1 ⟨rfl, rfl⟩
   refine ⟨_, rfl, (rMod_spec z 8 dcc dcc w1).mono ?_⟩
   rintro e w1 ⟨rfl, rfl⟩
   refine ⟨_, rfl, ?_⟩
   rw [q1, q2, m1, m2, m3, m4]
   have hk01 : k = 0 ∨ k = 1 := by omega
   refine Br.mk (fun hb1 => Br.mk (fun hb2 => ?_) (fun hb2 => ?_)) (fun hb1 => Br.mk (fun hb2 => ?_) (fun hb2 => ?_))
   all_goals
    simp only [beq_iff_eq, beq_eq_false_iff_ne, ne_eq] at hb1 hb2
    refine (rDiv_spec x 8 hx dcc w1).mono ?_
    rintro e w1 ⟨rfl, rfl⟩
    refine ⟨_, rfl, (rDiv_spec z 8 hz dcc w1).mono ?_⟩
    rintro e w1 ⟨rfl, rfl⟩
    refine ⟨_, rfl, (rHash_spec _ _ _ w1).mono ?_⟩
    rintro e w1 ⟨rfl, rfl⟩
    refine ⟨_, rfl, ?_⟩
    rw [cornerE]
   ·have hi0 : i = 0 := hb1
    have hk0 : k = 0 := hb2
    subst hi0; subst hk0
    rw [Int.add_zero, Int.add_zero, wrap_in hdx.2, wrap_in hdz.2, ← k1, wrap_in (n := corner s (x / 8) (z / 8) * ((8 - x % 8) * (8 - z % 8))) (by unfold inI; omega)]
    have ht : t' = 0 := by omega
    subst ht
    refine ⟨1, by omega, rfl, .inr (.inl ⟨by decide, rfl, ?_⟩)⟩
    rw [wI, if_pos rfl]; omega
   ·have hi0 : i = 0 := hb1
    have hk0 : k = 1 := by omega
    subst hi0; subst hk0
    rw [Int.add_zero, wrap_in hdx.2, wrap_in hdz.1, ← k3, wrap_in (n := corner s (x / 8) (z / 8 + 1) * ((8 - x % 8) * (z % 8))) (by unfold inI; omega)]
    rcases hk with hk | hk | hk
    ·omega
    ·obtain ⟨-, hn2, ht⟩ := hk
     rw [if_pos rfl] at ht
     have ht0 : t = 0 := by omega
     subst ht0
     refine ⟨0, by omega, rfl, .inr (.inr ⟨by decide, rfl, ?_⟩)⟩
     rw [wI, if_pos rfl, if_pos rfl]; omega
    ·omega
   ·have hi0 : i = 1 := by omega
    have hk0 : k = 0 := hb2
    subst hi0; subst hk0
    rw [Int.add_zero, wrap_in hdx.1, wrap_in hdz.2, ← k2, wrap_in (n := corner s (x / 8 + 1) (z / 8) * (x % 8 * (8 - z % 8))) (by unfold inI; omega)]
    rcases hk with hk | hk | hk
    ·obtain ⟨-, ht, hn2⟩ := hk
     refine ⟨1, by omega, rfl, .inr (.inl ⟨by decide, rfl, ?_⟩)⟩
     rw [wI, if_neg dcc]; omega
    ·omega
    ·omega
   ·have hi0 : i = 1 := by omega
    have hk0 : k = 1 := by omega
    subst hi0; subst hk0
    rw [wrap_in hdx.1, wrap_in hdz.1, ← k4, wrap_in (n := corner s (x / 8 + 1) (z / 8 + 1) * (x % 8 * (z % 8))) (by unfold inI; omega)]
    rcases hk with hk | hk | hk
    ·omega
    ·obtain ⟨-, hn2, ht⟩ := hk
     rw [if_neg dcc] at ht
     refine ⟨0, by omega, rfl, .inr (.inr ⟨by decide, rfl, ?_⟩)⟩
     rw [wI, if_neg dcc, if_neg dcc]; omega
    ·omega
  ·replace hc2 := q0F hc2
   rcases hk with hk | hk | hk
   ·omega
   ·omega
   ·obtain ⟨-, hn2, ht⟩ := hk
    rcases hi01 with h | h
    ·subst h
     rw [if_pos rfl, if_pos rfl] at ht
     refine ⟨1, by omega, rfl, .inr (.inl ⟨by decide, by omega, rfl⟩)⟩
    ·subst h
     rw [if_neg dcc, if_neg dcc] at ht
     refine ⟨0, by omega, rfl, .inr (.inr ⟨by decide, by omega, rfl⟩)⟩
 ·replace hc := q0F hc
  rcases hi with hi | hi | hi
  ·omega
  ·omega
  ·obtain ⟨-, ht, -⟩ := hi
   refine ⟨?_, Ext.rfl' _⟩
   have : t = corner s (x / 8) (z / 8) * ((8 - x % 8) * (8 - z % 8)) + corner s (x / 8 + 1) (z / 8) * (x % 8 * (8 - z % 8)) + corner s (x / 8) (z / 8 + 1) * ((8 - x % 8) * (z % 8)) + corner s (x / 8 + 1) (z / 8 + 1) * (x % 8 * (z % 8)) := by omega
   rw [← this] at e1
   rw [ali23 omm, wrap_in (n := t / 64) (by unfold inI; omega), ← e1, wI]
theorem rBlock_spec (s : Int) (c : Ce) (hc : okC c) (w : World) : Cal 18 #[s, cev c] w fun e w' => e = Value.int .i64 (ofG c.2.1 (ground s c.1 c.2.2)) ∧ Ext w w' := by
 apply ref10_Block.vc
 intro w0 e0
 have x0 := eaa e0
 have z0 := hs1 e0
 refine (rGround_spec s c.1 c.2.2 hc.1 hc.2.2 w0).mono ?_
 rintro e w1 ⟨rfl, x1⟩
 refine ⟨_, rfl, x1.heap omm, ?_⟩
 have hg := ground_in s c.1 c.2.2
 generalize ground s c.1 c.2.2 = g at hg
 generalize c.2.1 = y
 have q1 : wqq (g - 3) = g - 3 := wI
 have q2 : wqq (g - 1) = g - 1 := wI
 rw [q1, q2]
 have fin : ∀ {v : Int}, ofG y g = v → (Ending.returned v = Value.int .i64 (ofG y g) ∧ Ext w w1) := fun h => ⟨by rw [h], x0.tr x1⟩
 refine Br.mk (fun h1 => fin ?_) (fun h1 => Br.mk (fun h2 => fin ?_) (fun h2 => Br.mk (fun h3 => fin ?_) (fun h3 => Br.mk (fun h4 => fin ?_) (fun h4 => Br.mk (fun h5 => fin ?_) (fun h5 => Br.mk (fun h6 => Br.mk (fun h7 => fin ?_) (fun h7 => fin ?_)) (fun h6 => Br.mk (fun h9 => fin ?_) (fun h9 => fin ?_)))))))
 all_goals simp only [ali27, ali28, beq_iff_eq, beq_eq_false_iff_ne, ne_eq] at *
 all_goals unfold ofG
 all_goals (repeat' split) <;> omega
theorem rCell21_spec (c : Ce) (hc : okC c) (w : World) : Cal 11 #[cev c] w fun e w' => e = (cev (3 + around c.1 10, 6 + around c.2.1 14, 3 + around c.2.2 10)) ∧ Ext w w' := by
 apply ref21_Cell.vc
 have h1 := around_bd c.1 10 dcc
 have h2 := around_bd c.2.1 14 dcc
 have h3 := around_bd c.2.2 10 dcc
 intro w0 e0 w1 e1
 have z0 := hs1 e0
 have x1 : Ext w w1.drew := ((eaa e0).of_alloc e1).drew
 have hb : Row w1.drew w [c.1, c.2.1, c.2.2] tCe := ((by rw [e0]; exact Row.new w [_, _, _] _ : Row w0 w [c.1, c.2.1, c.2.2] tCe).ext (eaa e1)).ext (Ext.dr _)
 have r1 : LoadL w1.drew (pnq w.heap.size 1) 0 [c.2.1] := hb.loadL fun j hj => by simp at hj; subst hj; rfl
 have r2 : LoadL w1.drew (pnq w.heap.size 2) 0 [c.2.2] := hb.loadL fun j hj => by simp at hj; subst hj; rfl
 refine (around_spec c.1 10 w1.drew hc.1 dcc (by unfold inI; omega)).mono ?_
 rintro e w2 ⟨rfl, hw⟩; subst hw
 refine ⟨_, rfl, rfl, rfl, r2, r1, (around_spec c.2.1 14 w1.drew hc.2.1 dcc (by unfold inI; omega)).mono ?_⟩
 rintro e w2 ⟨rfl, hw⟩; subst hw
 refine ⟨_, rfl, rfl, rfl, r2, (around_spec c.2.2 10 w1.drew hc.2.2 dcc (by unfold inI; omega)).mono ?_⟩
 rintro e w2 ⟨rfl, hw⟩; subst hw
 refine ⟨_, rfl, rfl, rfl, fun w6 e6 => ⟨?_, x1.of_setRow e6 omm⟩⟩
 have q1 : wqq (3 + around c.1 10) = 3 + around c.1 10 := wI
 have q2 : wqq (6 + around c.2.1 14) = 6 + around c.2.1 14 := wI
 have q3 : wqq (3 + around c.2.2 10) = 3 + around c.2.2 10 := wI
 rw [q1, q2, q3]
def cellS (c : Ce) : ByteArray := ((((decT c.1) ++ ByteArray.mk #[32]) ++ decT c.2.1) ++ ByteArray.mk #[32]) ++ decT c.2.2
theorem dec2_of {x : Int} (h : 0 ≤ x ∧ x < 32) (w : World) : Cal 13 #[x] w fun e w' => e = Value.string (decT x) ∧ Ext w w' := Decimal_spec 1 x w dcc omm (by unfold inI; omega)
theorem row3_spec {w : World} {b : Nat} {τ : TypeId} {x y z : Int} (h : Row w b [x, y, z] τ) (hx : 0 ≤ x ∧ x < 32) (hy : 0 ≤ y ∧ y < 32) (hz : 0 ≤ z ∧ z < 32) :
  Cal 55 #[.slice (pzq b) 3 3] w fun e w' => e = Value.string (cellS (x, y, z)) ∧ Ext w w' := by
 apply (ref22_Row.vc (a0 := ⟨pzq b, 3, 3⟩))
 have sx := (dec_num hx).2.2
 have sy := (dec_num hy).2.2
 have sz := (dec_num hz).2.2
 have s1 : (ByteArray.mk #[32]).size = 1 := rfl
 have s0 : (ByteArray.mk #[]).size = 0 := rfl
 have ldx : ∀ {u : World}, Ext w u → ∀ (k : Nat) (v : Value), [Value.int .i64 x, y, z][k]? = some v → ld u (padd (pzq b) (((k : Nat) : Int).toNat * 1)) = some v := fun {u} xu k v hk => by
  rw [padd_row, ali30, alj64, ali37, (h.ext xu).ld]
  exact hk
 refine ⟨fun n k t u => Ext w u ∧ ((k = 0 ∧ t = ByteArray.mk #[] ∧ n = 3) ∨ (k = 1 ∧ t = decT x ∧ n = 2) ∨ (k = 2 ∧ t = (decT x ++ ByteArray.mk #[32]) ++ decT y ∧ n = 1) ∨ (k = 3 ∧ t = cellS (x, y, z) ∧ n = 0)), ⟨3, Ext.rfl' _, .inl ⟨rfl, rfl, rfl⟩⟩, ?_⟩
 rintro n us k t u ⟨xu, hc⟩
 rcases hc with ⟨rfl, rfl, rfl⟩ | ⟨rfl, rfl, rfl⟩ | ⟨rfl, rfl, rfl⟩ | ⟨rfl, rfl, rfl⟩
 ·refine yes rfl (nope rfl ⟨⟨by rfl, by decide, show (_ : Int) < ((3 : Nat) : Int) by decide⟩, x, ldx xu 0 _ rfl, (dec2_of hx u).mono ?_⟩)
  rintro _ w11 ⟨rfl, x11⟩
  exact ⟨_, rfl, le_max omm, 2, by decide, xu.tr x11, .inr (.inl ⟨rfl, by
   show ByteArray.mk #[] ++ decT x = decT x
   exact bl_inj (by rw [bl_app]; rfl), rfl⟩)⟩
 ·refine yes rfl (yes rfl ⟨le_max omm, ⟨by rfl, by decide, show (_ : Int) < ((3 : Nat) : Int) by decide⟩, y, ldx xu 1 _ rfl, (dec2_of hy u).mono ?_⟩)
  rintro _ w8 ⟨rfl, x8⟩
  exact ⟨_, rfl, le_max (by simp only [ByteArray.size_append]; omega), 1, by decide, xu.tr x8, .inr (.inr (.inl ⟨rfl, rfl, rfl⟩))⟩
 ·refine yes rfl (yes rfl ⟨le_max (by simp only [ByteArray.size_append]; omega), ⟨by rfl, by decide, show (_ : Int) < ((3 : Nat) : Int) by decide⟩, z, ldx xu 2 _ rfl, (dec2_of hz u).mono ?_⟩)
  rintro _ w8 ⟨rfl, x8⟩
  exact ⟨_, rfl, le_max (by simp only [ByteArray.size_append]; omega), 0, by decide, xu.tr x8, .inr (.inr (.inr ⟨rfl, rfl, rfl⟩))⟩
 ·exact nope rfl ⟨rfl, xu⟩
theorem topCell_spec {c : Ce} (h1 : 0 ≤ c.1 ∧ c.1 < 32) (h2 : 0 ≤ c.2.1 ∧ c.2.1 < 32) (h3 : 0 ≤ c.2.2 ∧ c.2.2 < 32) (w : World) : Cal 15 #[cev c] w fun e w' => e = Value.string (cellS c) ∧ Ext w w' := by
 obtain ⟨x, y, z⟩ := c
 apply top_cell.vc
 intro w0 e0 w1 e1
 have x0 := eaa e0
 have x1 := eaa e1
 have z0 := hs1 e0
 have z1 := hs1 e1
 have hr : Row w1 w0 [x, y, z] 3 := Row.nw e1
 refine (row3_spec hr h1 h2 h3).mono ?_
 rintro _ w2 ⟨rfl, x2⟩
 exact ⟨_, rfl, x2.heap omm, rfl, (x0.tr x1).tr x2⟩
end Go.Proofs.YtjcnjlaelhdjeaaGreatDoor
namespace Go.Proofs.YtjcnjlaelhdjeaaGreatDoor
open Go Go.Vc Go.RowKit Go.Proofs Go.Lin Go.Chk Go.Runs Go.Code Go.Que Go.Flw Go.Eng
set_option linter.unusedVariables false
def NowA (w0 : World) (A : List Nat) (sh : Nat) (M : Sm) (occ : Value) (L : List (Option Lfe)) (u : World) : Prop :=
 Ext w0 u ∧ (∀ i ∈ A, i < u.heap.size ∧ i ≠ sh) ∧ ∃ (g s o t : Nat) (F : Nat → Prop), EF F u g s o t M occ L ∧ SHE u sh g ∧ ¬ F sh ∧ w0.heap.size ≤ sh ∧ ∀ i, F i → w0.heap.size ≤ i ∧ i ∉ A
abbrev KpA (A : List Nat) (u u' : World) : Prop := ∀ i ∈ A, u'.heap[i]? = u.heap[i]?
section
variable {w0 u u' : World} {A : List Nat} {sh : Nat} {M M' : Sm} {occ occ' : Value} {L L' : List (Option Lfe)}
theorem NowA.ext (h : NowA w0 A sh M occ L u) (x : Ext u u') : NowA w0 A sh M occ L u' ∧ KpA A u u' := by
 obtain ⟨h1, h0, g, s, o, t, F, h2, h3, h4, h5, h6⟩ := h
 exact ⟨⟨h1.tr x, fun i hi => ⟨ali35 (h0 i hi).1 x.size, (h0 i hi).2⟩, g, s, o, t, F, h2.ext x, ⟨h3.row.ext x⟩, h4, h5, h6⟩, fun i hi => x.heap (h0 i hi).1⟩
theorem NowA.add (h : NowA w0 A sh M occ L u) (x : Ext u u') {j : Nat} (hj : u.heap.size ≤ j) (hj' : j < u'.heap.size) : NowA w0 (j :: A) sh M occ L u' := by
 obtain ⟨h1, h0, g, s, o, t, F, h2, h3, h4, h5, h6⟩ := h
 have hsl := h3.row.lt
 refine ⟨h1.tr x, fun i hi => ?_, g, s, o, t, F, h2.ext x, ⟨h3.row.ext x⟩, h4, h5, fun i hi => ⟨(h6 i hi).1, fun q => ?_⟩⟩
 ·rcases ali16.1 hi with rfl | hi
  ·exact ⟨hj', by omega⟩
  ·exact ⟨ali35 (h0 i hi).1 x.size, (h0 i hi).2⟩
 ·rcases ali16.1 q with rfl | q
  ·have := h2.lt hi; omega
  ·exact (h6 i hi).2 q
theorem NowA.of_SH (hx : Ext w0 u) (h0 : ∀ i ∈ A, i < u.heap.size ∧ i ≠ sh) (h5 : w0.heap.size ≤ sh) {F F' : Nat → Prop} (h6 : ∀ i, F i → w0.heap.size ≤ i ∧ i ∉ A) {g s o t : Nat} (hS : SH u F u' sh g s o t M' occ' L' F') : NowA w0 A sh M' occ' L' u' ∧ KpA A u u' := by
 have hz := hx.size
 refine ⟨⟨hS.m.ext hx fun i hi => (h6 i hi).1, fun i hi => ⟨ali35 (h0 i hi).1 hS.m.size, (h0 i hi).2⟩, g, s, o, t, F', hS.e, hS.r, hS.n, h5, fun i hi => (hS.f i hi).elim (h6 i) fun q => ⟨by omega, fun hA => by have := (h0 i hA).1; omega⟩⟩, fun i hi => hS.m.same i (h0 i hi).1 fun q => (h6 i q).2 hi⟩
theorem NowA.line (h : NowA w0 A sh M occ L u) {line tx : ByteArray}
  (hl : ∀ {g s o t : Nat} {F : Nat → Prop}, EF F u g s o t M occ L → SHE u sh g → ¬ F sh → (∀ i, F i → w0.heap.size ≤ i) → Cal 14 #[sh, .string line] u fun e w' => e = Value.string tx ∧ ∃ F', SH u F w' sh g s o t M' occ' L' F') :
  Cal 14 #[sh, .string line] u fun e w' => e = Value.string tx ∧ NowA w0 A sh M' occ' L' w' ∧ KpA A u w' := by
 obtain ⟨h1, h0, g, s, o, t, F, h2, h3, h4, h5, h6⟩ := h
 refine (hl h2 h3 h4 fun i hi => (h6 i hi).1).mono ?_
 rintro e w' ⟨he, F', hS⟩
 exact ⟨he, NowA.of_SH h1 h0 h5 h6 hS⟩
theorem NowA_load (h : NowA w0 A sh M occ L u) (hW : M.T.1.l.length ≤ 1000000) (line : ByteArray) (hl : line.size ≤ 4294967296) {r : List ByteArray} (hw : wordsK line = ByteArray.mk #[108, 111, 97, 100] :: r) {p : Po} (hp : pPos r = some (p, [])) (h0 : (ldE M.seed M.cap M.T.1 M.T.2 p).2 = 0) :
  Cal 14 #[sh, .string line] u fun e w' => e = Value.string (ByteArray.mk #[111, 107]) ∧ NowA w0 A sh { M with T := (ldE M.seed M.cap M.T.1 M.T.2 p).1 } occ L w' ∧ KpA A u w' :=
 h.line fun h2 h3 h4 _ => (Line_load h2 h3 h4 hW line hl r hw p hp h0).mono fun e w' ⟨tx, he, ht, F', hS, _⟩ => ⟨ht ▸ he, F', hS⟩
theorem NowA_at (h : NowA w0 A sh M occ L u) (line : ByteArray) (hl : line.size ≤ 4294967296) {r : List ByteArray} (hw : wordsK line = ByteArray.mk #[97, 116] :: r) {c : Ce} (hp : pVec r = some (c, [])) (hc : okC c) :
  Cal 14 #[sh, .string line] u fun e w' => e = Value.string (cellT (atE M.T.2 c)) ∧ NowA w0 A sh M occ L w' ∧ KpA A u w' :=
 h.line fun h2 h3 h4 _ => (Line_at h2 h3 h4 name_size line hl r hw c hp hc).mono fun e w' ⟨tx, he, ht, hS⟩ => ⟨ht ▸ he, _, hS⟩
theorem NowA_edit (h : NowA w0 A sh M occ L u) {m : Int} (hL : okL m L) (hk : Sok M 800000) (line : ByteArray) (hl : line.size ≤ 4294967296) {r : List ByteArray} (hw : wordsK line = ByteArray.mk #[101, 100, 105, 116] :: r) {c : Ce} {b : Int} (hp : pEdit r = some (c, b)) (hc : wideC c) (hn : 0 ≤ (eeditE M L c b).1 ∧ (eeditE M L c b).1 < 14) :
  Cal 14 #[sh, .string line] u fun e w' => e = Value.string (errT (eeditE M L c b).1) ∧ NowA w0 A sh (eeditE M L c b).2 occ L w' ∧ KpA A u w' :=
 h.line fun h2 h3 h4 _ => (Line_edit h2 h3 h4 hL hk line hl r hw c b hp hc hn).mono fun e w' ⟨tx, he, ht, F', hS, _⟩ => ⟨ht ▸ he, F', hS⟩
set_option maxRecDepth 100000 in
theorem NowA_flush (h : NowA w0 A sh M occ L u) (hW : M.T.1.l.length ≤ 1000000) (line : ByteArray) (hl : line.size ≤ 4294967296) {r : List ByteArray} (hw : wordsK line = ByteArray.mk #[102, 108, 117, 115, 104] :: r) {p : Po} (hp : pPos r = some (p, [])) (h0 : 0 ≤ (flE M.T.1 M.T.2 p).2 ∧ (flE M.T.1 M.T.2 p).2 < 14) :
  Cal 14 #[sh, .string line] u fun e w' => e = Value.string (errT (flE M.T.1 M.T.2 p).2) ∧ NowA w0 A sh { M with T := (flE M.T.1 M.T.2 p).1 } occ L w' ∧ KpA A u w' :=
 h.line fun h2 h3 h4 _ => Line_tbl h2 h3 h4 line hl hw 2 dcc rfl hp h0 fun v hv => callV_of (by kernel_rfl) rfl (eFlush_spec hv hW p)
theorem NowA_fail (h : NowA w0 A sh M occ L u) (line : ByteArray) (hl : line.size ≤ 4294967296) {r : List ByteArray} (hw : wordsK line = ByteArray.mk #[102, 97, 105, 108] :: r) {n : Int} (hp : pNum r = some (n, [])) (hn : inI n) :
  Cal 14 #[sh, .string line] u fun e w' => e = Value.string (ByteArray.mk #[111, 107]) ∧ NowA w0 A sh { M with T := (failD M.T.1 n, M.T.2) } occ L w' ∧ KpA A u w' :=
 h.line fun h2 h3 h4 _ => Line_eres h2 h3 h4 line hl hw 7 94 rfl (fun _ _ _ _ _ => rfl) (fun args w => enter_of Tryz.func94 (by kernel_rfl) rfl args w) fun v B ga xv hE hS ha hF hne _ => shFail_spec hE hS ha hF hne hp hn
theorem NowA_crash (h : NowA w0 A sh M occ L u) (hT : Tab10 w0) (line : ByteArray) (hl : line.size ≤ 4294967296) {r : List ByteArray} (hw : wordsK line = ByteArray.mk #[99, 114, 97, 115, 104] :: r) {n : Int} (hp : pNum r = some (n, []))
  (hW : M.T.1.l.length ≤ 1000000) (hB : lenB M.T.1.l ≤ 1099511627776) (hk : (Go.Chk.ldS (crashD M.T.1 n).1 0).2.2 = false) (hx : inI (crashD M.T.1 n).2) :
  Cal 14 #[sh, .string line] u fun e w' => e = Value.string (itoaT (crashD M.T.1 n).2) ∧ NowA w0 A sh { M with T := ((crashD M.T.1 n).1, []), q := ⟨4096, 0, []⟩, now := 0 } occ noL w' ∧ KpA A u w' := by
 have hxu := h.1
 refine h.line fun {g s o t F} h2 h3 h4 h6 => Line_eres h2 h3 h4 line hl hw 8 95 rfl (fun _ _ _ _ _ => rfl) (fun args w => enter_of Tryz.func95 (by kernel_rfl) rfl args w) fun v B ga xv hE hS ha hF hne hga => ?_
 refine shCrash_spec hE hS ha hF hne hp hx (fun y hy => ?_) fun v2 hv2 => eCrash_none hv2 n hW hB (by rw [crash_l]; exact alj66 _) hk
 have hz := hxu.size
 refine tab_ext hT (hy.ext (hxu.tr xv) fun i hi => ?_)
 rcases hi with hi | rfl
 ·exact h6 i hi
 ·omega
theorem NowA_world (h : NowA w0 A sh M occ L u) (line : ByteArray) (hl : line.size ≤ 4294967296) {r : List ByteArray} (hw : wordsK line = ByteArray.mk #[119, 111, 114, 108, 100] :: r) {a b c : Int} (hp : pVec r = some ((a, b, c), [])) :
  Cal 14 #[sh, .string line] u fun e w' => e = Value.string (ByteArray.mk #[111, 107]) ∧ NowA w0 A sh (M0e a b 200000 c) occ0 noL w' ∧ KpA A u w' := by
 obtain ⟨h1, h0, g, s, o, t, F, h2, h3, h4, h5, h6⟩ := h
 have hsl := h3.row.lt
 have hz := h1.size
 refine (Line_meth h2 h3 line hl hw 0 86 rfl (fun _ _ _ _ _ => rfl) (fun args w => enter_of Tryz.func86 (by kernel_rfl) rfl args w)
  (fun t' v => t' = ByteArray.mk #[111, 107] ∧ Mod (fun i => i = sh) u v ∧ ∃ (g' s' o' t' : Nat) (F' : Nat → Prop), EF F' v g' s' o' t' (M0e a b 200000 c) occ0 noL ∧ SHE v sh g' ∧ ∀ i, F' i → u.heap.size < i) ?_ ?_).mono ?_
 ·rintro t' v v' ⟨rfl, hm, g', s', o', t', F', hE, hS, hF'⟩ hm'
  exact ⟨rfl, hm.tr hm' (fun i hi => .inr omm), g', s', o', t', F', hE.same fun i hi => hm'.same i (hE.lt hi) (by have := hF' i hi; omega), ⟨hS.row.same (hm'.same sh hS.row.lt omm)⟩, hF'⟩
 ·intro v B ga xv hag hga
  have hgl := hag.lt
  have hle := hag.le
  refine (shWorld_spec (w := v) ⟨h3.row.ext xv⟩ hag omm hp).mono ?_
  rintro e v' ⟨rfl, hm, g', s', o', t', F', hE, hS, hF'⟩
  exact ⟨hm.same _ omm omm, .inl ⟨_, rfl, rfl, (Mod.of_ext xv).tr hm (fun i hi => by rcases hi with hi | hi; exact .inr omm; exact .inl hi), g', s', o', t', F', hE, hS, fun i hi => by have := hF' i hi; omega⟩⟩
 ·rintro e w' ⟨t', rfl, rfl, hm, g', s', o', t', F', hE, hS, hF'⟩
  exact ⟨rfl, ⟨hm.ext h1 fun i hi => by omega, fun i hi => ⟨ali35 (h0 i hi).1 hm.size, (h0 i hi).2⟩, g', s', o', t', F', hE, hS, fun q => by have := hF' _ q; omega, h5, fun i hi => ⟨by have := hF' i hi; omega, fun q => by have := hF' i hi; have := (h0 i q).1; omega⟩⟩, fun i hi => hm.same i (h0 i hi).1 (h0 i hi).2⟩
theorem NowA_new (w : World) : Cal 26 #[] w fun e w' => ∃ sh, e = Value.pointer (pzq sh) ∧ NowA w [] sh (M0e 1 9 200000 16) occ0 noL w' := by
 refine (shNew_spec w).mono ?_
 rintro e w' ⟨sh, g, s, o, t, F, rfl, h1, h2, h3, h4, h5, h6⟩
 exact ⟨sh, rfl, h4, fun i hi => (by cases hi), g, s, o, t, F, h1, h2, h3, h6, fun i hi => ⟨h5 i hi, ali36⟩⟩
end
end Go.Proofs.YtjcnjlaelhdjeaaGreatDoor
namespace Go.Proofs.YtjcnjlaelhdjeaaGreatDoor
open Go Go.Vc Go.RowKit Go.Proofs Go.Lin Go.Chk Go.Runs Go.Code Go.Que Go.Flw Go.Eng
set_option linter.unusedVariables false
structure Sta (own : Int) (T : Tb) (k : Nat) (M : Sm) : Prop where
 seed : M.seed = own
 cap : M.cap = 9
 t : M.T = T
 ok : Sok M k
abbrev Rws := List (Nat × LV × TypeId)
def NR (w0 : World) (R : Rws) (sh : Nat) (own : Int) (T : Tb) (k : Nat) (u : World) : Prop :=
 (∃ M, Sta own T k M ∧ NowA w0 (R.map (·.1)) sh M occ0 noL u) ∧ ∀ r ∈ R, Row u r.1 r.2.1 r.2.2
abbrev KpR (R : Rws) (u u' : World) : Prop := KpA (R.map (·.1)) u u'
section
variable {w0 u u' : World} {R : Rws} {sh : Nat} {own : Int} {T T' : Tb} {k : Nat}
theorem NR.rows (h : ∀ r ∈ R, Row u r.1 r.2.1 r.2.2) (hk : KpR R u u') : ∀ r ∈ R, Row u' r.1 r.2.1 r.2.2 := fun r hr => (h r hr).same (hk _ (ali06.2 ⟨r, hr, rfl⟩))
theorem NR.ext (h : NR w0 R sh own T k u) (x : Ext u u') : NR w0 R sh own T k u' ∧ KpR R u u' := by
 obtain ⟨⟨M, h1, h2⟩, h3⟩ := h
 obtain ⟨q1, q2⟩ := h2.ext x
 exact ⟨⟨⟨M, h1, q1⟩, NR.rows h3 q2⟩, q2⟩
theorem NR.add (h : NR w0 R sh own T k u) (x : Ext u u') {j : Nat} {cs : LV} {τ : TypeId} (hj : u.heap.size ≤ j) (hr : Row u' j cs τ) : NR w0 ((j, cs, τ) :: R) sh own T k u' := by
 obtain ⟨⟨M, h1, h2⟩, h3⟩ := h
 obtain ⟨-, q2⟩ := h2.ext x
 refine ⟨⟨M, h1, h2.add x hj hr.lt⟩, fun r hr' => ?_⟩
 rcases ali16.1 hr' with rfl | hr'
 ·exact hr
 ·exact NR.rows h3 q2 r hr'
theorem NR.x (h : NR w0 R sh own T k u) : Ext w0 u := h.1.choose_spec.2.1
theorem NR.line (h : NR w0 R sh own T k u) {k' : Nat} {line tx : ByteArray}
  (hl : ∀ M, Sta own T k M → NowA w0 (R.map (·.1)) sh M occ0 noL u → Cal 14 #[sh, .string line] u fun e w' => e = Value.string tx ∧ (∃ M', Sta own T' k' M' ∧ NowA w0 (R.map (·.1)) sh M' occ0 noL w') ∧ KpR R u w') :
  Cal 14 #[sh, .string line] u fun e w' => e = Value.string tx ∧ NR w0 R sh own T' k' w' ∧ KpR R u w' := by
 obtain ⟨⟨M, h1, h2⟩, h3⟩ := h
 refine (hl M h1 h2).mono ?_
 rintro e w' ⟨he, hM, hk⟩
 exact ⟨he, ⟨hM, NR.rows h3 hk⟩, hk⟩
theorem NR_load (h : NR w0 R sh own T k u) (hW : T.1.l.length ≤ 1000000) (line : ByteArray) (hl : line.size ≤ 4294967296) {r : List ByteArray} (hw : wordsK line = ByteArray.mk #[108, 111, 97, 100] :: r) {p : Po} (hp : pPos r = some (p, [])) (h0 : ldE own 9 T.1 T.2 p = (T', 0)) :
  Cal 14 #[sh, .string line] u fun e w' => e = Value.string (ByteArray.mk #[111, 107]) ∧ NR w0 R sh own T' k w' ∧ KpR R u w' :=
 h.line fun M hM hN => (NowA_load hN (by rw [hM.t]; exact hW) line hl hw hp (by rw [hM.seed, hM.cap, hM.t, h0])).mono fun e w' ⟨he, hN', hk⟩ =>
  ⟨he, ⟨_, And.symm ⟨hN', ⟨hM.seed, hM.cap, by show (ldE M.seed M.cap M.T.1 M.T.2 p).1 = T'; rw [hM.seed, hM.cap, hM.t, h0], hM.ok.l, hM.ok.c, hM.ok.now, hM.ok.d⟩⟩⟩, hk⟩
theorem NR_at (h : NR w0 R sh own T k u) (line : ByteArray) (hl : line.size ≤ 4294967296) {r : List ByteArray} (hw : wordsK line = ByteArray.mk #[97, 116] :: r) {c : Ce} (hp : pVec r = some (c, [])) (hc : okC c) :
  Cal 14 #[sh, .string line] u fun e w' => e = Value.string (cellT (atE T.2 c)) ∧ NR w0 R sh own T k w' ∧ KpR R u w' :=
 h.line fun M hM hN => (NowA_at hN line hl hw hp hc).mono fun e w' ⟨he, hN', hk⟩ => ⟨by rw [he, hM.t], ⟨M, hM, hN'⟩, hk⟩
theorem NR_edit (h : NR w0 R sh own T k u) (hk : k ≤ 800000) (line : ByteArray) (hl : line.size ≤ 4294967296) {r : List ByteArray} (hw : wordsK line = ByteArray.mk #[101, 100, 105, 116] :: r) {c : Ce} {b : Int} (hp : pEdit r = some (c, b)) (hc : wideC c) {l' : List En} (h0 : setE T.2 c b = (l', 0)) :
  Cal 14 #[sh, .string line] u fun e w' => e = Value.string (ByteArray.mk #[111, 107]) ∧ NR w0 R sh own (T.1, l') (k + 7) w' ∧ KpR R u w' :=
 h.line fun M hM hN => by
  have hee : eeditE M noL c b = (0, editM M c b) := by unfold eeditE; rw [if_neg (fun q => by rw [held_none] at q; exact absurd q.2 dcc), hM.t, h0]
  refine (NowA_edit hN (okL_none 0) (hM.ok.mono hk) line hl hw hp hc (by rw [hee]; show (0 : Int) ≤ 0 ∧ (0 : Int) < 14; decide)).mono fun e w' ⟨he, hN', hkp⟩ => ?_
  rw [hee] at he hN'
  exact ⟨he, ⟨_, And.symm ⟨hN', ⟨hM.seed, hM.cap, by show (M.T.1, (setE M.T.2 c b).1) = _; rw [hM.t, h0], hM.ok.edit c b⟩⟩⟩, hkp⟩
theorem NR_flush (h : NR w0 R sh own T k u) (hW : T.1.l.length ≤ 1000000) (line : ByteArray) (hl : line.size ≤ 4294967296) {r : List ByteArray} (hw : wordsK line = ByteArray.mk #[102, 108, 117, 115, 104] :: r) {p : Po} (hp : pPos r = some (p, [])) {e0 : Int} (h0 : flE T.1 T.2 p = (T', e0)) (he0 : 0 ≤ e0 ∧ e0 < 14) :
  Cal 14 #[sh, .string line] u fun e w' => e = Value.string (errT e0) ∧ NR w0 R sh own T' k w' ∧ KpR R u w' :=
 h.line fun M hM hN => (NowA_flush hN (by rw [hM.t]; exact hW) line hl hw hp (by rw [hM.t, h0]; exact he0)).mono fun e w' ⟨he, hN', hk⟩ =>
  ⟨by rw [he, hM.t, h0], ⟨_, And.symm ⟨hN', ⟨hM.seed, hM.cap, by show (flE M.T.1 M.T.2 p).1 = T'; rw [hM.t, h0], hM.ok.l, hM.ok.c, hM.ok.now, hM.ok.d⟩⟩⟩, hk⟩
theorem NR_fail (h : NR w0 R sh own T k u) (line : ByteArray) (hl : line.size ≤ 4294967296) {r : List ByteArray} (hw : wordsK line = ByteArray.mk #[102, 97, 105, 108] :: r) {n : Int} (hp : pNum r = some (n, [])) (hn : inI n) :
  Cal 14 #[sh, .string line] u fun e w' => e = Value.string (ByteArray.mk #[111, 107]) ∧ NR w0 R sh own (failD T.1 n, T.2) k w' ∧ KpR R u w' :=
 h.line fun M hM hN => (NowA_fail hN line hl hw hp hn).mono fun e w' ⟨he, hN', hk⟩ =>
  ⟨he, ⟨_, And.symm ⟨hN', ⟨hM.seed, hM.cap, by show (failD M.T.1 n, M.T.2) = _; rw [hM.t], hM.ok.l, hM.ok.c, hM.ok.now, hM.ok.d⟩⟩⟩, hk⟩
theorem NR_crash (h : NR w0 R sh own T k u) (hT : Tab10 w0) (line : ByteArray) (hl : line.size ≤ 4294967296) {r : List ByteArray} (hw : wordsK line = ByteArray.mk #[99, 114, 97, 115, 104] :: r) {n : Int} (hp : pNum r = some (n, []))
  (hW : T.1.l.length ≤ 1000000) (hB : lenB T.1.l ≤ 1099511627776) (hk : (Go.Chk.ldS (crashD T.1 n).1 0).2.2 = false) (hx : inI (crashD T.1 n).2) :
  Cal 14 #[sh, .string line] u fun e w' => e = Value.string (itoaT (crashD T.1 n).2) ∧ NR w0 R sh own ((crashD T.1 n).1, []) k w' ∧ KpR R u w' :=
 h.line fun M hM hN => (NowA_crash hN hT line hl hw hp (by rw [hM.t]; exact hW) (by rw [hM.t]; exact hB) (by rw [hM.t]; exact hk) (by rw [hM.t]; exact hx)).mono fun e w' ⟨he, hN', hkp⟩ =>
  ⟨by rw [he, hM.t], ⟨_, And.symm ⟨hN', ⟨hM.seed, hM.cap, by show ((crashD M.T.1 n).1, ([] : List En)) = _; rw [hM.t], ⟨alj06 0, by show (0 : Int) ≤ _; omega⟩, hM.ok.c, ⟨alj06 0, by show (0 : Int) ≤ _; decide⟩, hM.ok.d⟩⟩⟩, hkp⟩
end
def decW (n : Int) : ByteArray := ⟨(decL 15 n).toArray⟩
theorem digNo (n : Int) : Go.Lin.dig1 n ≠ 32 := by
 intro q
 have h := Go.Lin.dig1_nat n
 rw [q] at h
 have : (32 : UInt8).toNat = 32 := rfl
 omega
theorem decN_wd : ∀ (f n : Nat), decN (f + 1) n ≠ [] ∧ ∀ c ∈ decN (f + 1) n, c ≠ 32
 | 0, n => by
   unfold decN
   split
   ·exact ⟨by simp, fun c hc => by rw [alj46.1 hc]; exact digNo _⟩
   ·exact ⟨by simp, fun c hc => by
     have : c = Go.Lin.dig1 (n : Int) := by simpa [decN] using hc
     rw [this]; exact digNo _⟩
 | f + 1, n => by
   have ih := decN_wd f (n / 10)
   unfold decN
   split
   ·exact ⟨by simp, fun c hc => by rw [alj46.1 hc]; exact digNo _⟩
   ·refine ⟨by simp, fun c hc => ?_⟩
    rcases ali25.1 hc with hc | hc
    ·exact ih.2 c hc
    ·rw [alj46.1 hc]; exact digNo _
theorem decW_wd {n : Int} (h : n.natAbs < 10 ^ 15) : Wd (decW n) := by
 have e : bl (decW n) = (if n < 0 then [45] else []) ++ decN 15 n.natAbs := dec_eq 15 n h
 obtain ⟨h1, h2⟩ := decN_wd 14 n.natAbs
 refine ⟨fun q => h1 ?_, fun c hc => ?_⟩
 ·rw [e] at q
  exact (List.append_eq_nil_iff.1 q).2
 ·rw [e] at hc
  rcases ali25.1 hc with hc | hc
  ·split at hc
   ·rw [alj46.1 hc]; decide
   ·cases hc
  ·exact h2 c hc
theorem decW_num {n : Int} (h : n.natAbs < 10 ^ 15) : numK (decW n) = (n, true) := num_dec h
theorem decW_size {n : Int} (h : n.natAbs < 10 ^ 15) : (decW n).size ≤ 100 := by
 have h1 := decL_len h
 have e := bl_len (decW n)
 have : (bl (decW n)).length = (decL 15 n).length := rfl
 omega
theorem decW_spec {n : Int} (h : n.natAbs < 10 ^ 15) (w : World) : Cal 13 #[n] w fun e w' => e = Value.string (decW n) ∧ Ext w w' := Decimal_spec 14 n w dcc h (by unfold inI; omega)
end Go.Proofs.YtjcnjlaelhdjeaaGreatDoor
namespace Go.Proofs.YtjcnjlaelhdjeaaGreatDoor
open Go Go.Vc Go.RowKit Go.Proofs Go.Lin Go.Chk Go.Runs Go.Code Go.Que Go.Flw Go.Eng
set_option linter.unusedVariables false
theorem whole_spec {F : Nat → Prop} {w : World} {g s o t : Nat} {M : Sm} {occ : Value} {L : List (Option Lfe)} (h : EF F w g s o t M occ L) : Cal 23 #[g] w fun e w' => e = true ∧ w' = w := by
 apply top_whole.vc
 obtain ⟨Fs, hS, hpp, -, -⟩ := h.sim
 obtain ⟨Fw, hW, -, -⟩ := hS.world
 refine ⟨_, hpp, (sWorld_spec hS).mono ?_⟩
 rintro _ w1 ⟨rfl, e1⟩
 rw [e1]
 refine ⟨_, rfl, nope rfl ((eSim_spec h).mono ?_)⟩
 rintro _ w3 ⟨rfl, e3⟩
 rw [e3]
 refine ⟨_, rfl, nope rfl ⟨_, hpp, (sWorld_spec hS).mono ?_⟩⟩
 rintro _ w6 ⟨rfl, e6⟩
 rw [e6]
 refine ⟨_, rfl, (wView_spec hW).mono ?_⟩
 rintro _ w8 ⟨rfl, e8⟩
 rw [e8]
 refine ⟨_, rfl, AndL_iff.2 ⟨by simp [fnC], yes rfl ⟨_, hpp, (sWorld_spec hS).mono ?_⟩⟩⟩
 rintro _ w11 ⟨rfl, e11⟩
 rw [e11]
 refine ⟨_, rfl, (wTable_spec hW).mono ?_⟩
 rintro _ w13 ⟨rfl, e13⟩
 rw [e13]
 exact ⟨_, rfl, rfl, rfl⟩
theorem engine_spec {w : World} {sh g : Nat} (h : SHE w sh g) : Cal 24 #[sh] w fun e w' => e = Value.pointer (pzq g) ∧ w' = w := by
 apply lines_Shell_Engine.vc
 exact ⟨_, by rw [padd_row, h.row.ld]; rfl, rfl, rfl⟩
theorem NowA.low {w0 u : World} {A : List Nat} {sh : Nat} {M : Sm} {occ : Value} {L : List (Option Lfe)} (h : NowA w0 [] sh M occ L u) (hA : ∀ i ∈ A, i < w0.heap.size) : NowA w0 A sh M occ L u := by
 obtain ⟨h1, -, g, s, o, t, F, h2, h3, h4, h5, h6⟩ := h
 have := h1.size
 exact ⟨h1, fun i hi => by have := hA i hi; omega, g, s, o, t, F, h2, h3, h4, h5, fun i hi => ⟨(h6 i hi).1, fun q => by have := hA i q; have := (h6 i hi).1; omega⟩⟩
abbrev pE (own : Int) (p : Po) : En := (p, made own p, false, 0)
theorem words_world {d : ByteArray} (hd : Wd d) : wordsK ((ByteArray.mk #[119, 111, 114, 108, 100, 32] ++ d) ++ ByteArray.mk #[32, 57, 32, 56]) = [ByteArray.mk #[119, 111, 114, 108, 100], d, ByteArray.mk #[57], ByteArray.mk #[56]] := by
 refine words_of ?_
 simp only [bl_app, ali15]
 show wordsL ([119, 111, 114, 108, 100] ++ 32 :: (bl d ++ 32 :: ([57] ++ 32 :: [56]))) = _
 rw [words_word _ dcc dcc, words_word _ hd.1 hd.2, words_word _ dcc dcc, words_last dcc dcc]
 rfl
set_option maxRecDepth 100000 in
theorem begin_spec (a0 : Int) (ha : inI a0) (R : Rws) (w : World) (hR : ∀ r ∈ R, Row w r.1 r.2.1 r.2.2) : Cal 10 #[a0] w fun e w' => ∃ sh, e = Value.pointer (pzq sh) ∧
  NR w R sh (around a0 1000) (dk0 200000, [pE (around a0 1000) (0, 0), pE (around a0 1000) (1, 0), pE (around a0 1000) (-1, 0), pE (around a0 1000) (0, 1), pE (around a0 1000) (0, -1)]) 0 w' ∧ KpR R w w' := by
 apply top_begin.vc
 have hlow : ∀ i ∈ R.map (·.1), i < w.heap.size := fun i hi => by
  obtain ⟨r, hr, rfl⟩ := ali06.1 hi
  exact (hR r hr).lt
 refine (NowA_new w).mono ?_
 rintro _ w0 ⟨sh, rfl, N0⟩
 refine ⟨_, rfl, nope rfl ((around_spec a0 1000 w0 ha dcc (by unfold inI; omega)).mono ?_)⟩
 rintro _ w2 ⟨rfl, e2⟩
 rw [e2]
 have hb := around_bd a0 1000 dcc
 generalize around a0 1000 = own at *
 refine ⟨_, rfl, (decW_spec (n := own) omm w0).mono ?_⟩
 rintro _ w4 ⟨rfl, x4⟩
 have sd := decW_size (n := own) omm
 have wd := decW_wd (n := own) omm
 have nd := decW_num (n := own) omm
 have s1 : (ByteArray.mk #[119, 111, 114, 108, 100, 32]).size = 6 := rfl
 have s2 : (ByteArray.mk #[32, 57, 32, 56]).size = 4 := rfl
 have N4 := ((N0.low hlow).ext x4).1
 refine ⟨_, rfl, le_max omm, le_max (by simp only [ByteArray.size_append]; omega), (NowA_world N4 _ (by simp only [ByteArray.size_append]; omega) (words_world wd) (pVec_of (x := own) (y := 9) (z := 8) nd (by kernel_rfl) (by kernel_rfl))).mono ?_⟩
 rintro _ w6 ⟨rfl, N6, k6⟩
 have hx6 := N6.1
 have K0 : KpR R w w6 := fun i hi => hx6.heap (hlow i hi)
 have hst : Sta own (dk0 200000, []) 0 (M0e own 9 200000 8) := ⟨rfl, by show min (max (9 : Int) 1) 16 = 9; decide, rfl, ⟨alj06 0, alj06 0⟩, ali34 0, ⟨alj06 0, by show (0 : Int) ≤ _; decide⟩, ali34 0⟩
 have NR6 : NR w R sh own (dk0 200000, []) 0 w6 := ⟨⟨_, hst, N6⟩, NR.rows hR K0⟩
 refine ⟨_, rfl, (NR_load NR6 dcc _ dcc words1 pos0 (ld_new own 9 200000 (l := []) dcc dcc smm)).mono ?_⟩
 rintro _ w8 ⟨rfl, N8, k8⟩
 refine ⟨_, rfl, (NR_load N8 (by show ([] : List Wr1).length ≤ _; decide) _ dcc (r := [ByteArray.mk #[49], ByteArray.mk #[48]]) (by kernel_rfl) (p := (1, 0)) (by kernel_rfl) (ld_new own 9 200000 (l := [pE own (0, 0)]) (by show ((1 : Nat) : Int) < 9; decide) dcc smm)).mono ?_⟩
 rintro _ w10 ⟨rfl, N10, k10⟩
 refine ⟨_, rfl, (NR_load N10 (by show ([] : List Wr1).length ≤ _; decide) _ dcc (r := [ByteArray.mk #[45, 49], ByteArray.mk #[48]]) (by kernel_rfl) (p := (-1, 0)) (by kernel_rfl) (ld_new own 9 200000 (l := [pE own (0, 0), pE own (1, 0)]) (by show ((2 : Nat) : Int) < 9; decide) dcc smm)).mono ?_⟩
 rintro _ w12 ⟨rfl, N12, k12⟩
 refine ⟨_, rfl, (NR_load N12 (by show ([] : List Wr1).length ≤ _; decide) _ dcc (r := [ByteArray.mk #[48], ByteArray.mk #[49]]) (by kernel_rfl) (p := (0, 1)) (by kernel_rfl) (ld_new own 9 200000 (l := [pE own (0, 0), pE own (1, 0), pE own (-1, 0)]) (by show ((3 : Nat) : Int) < 9; decide) dcc smm)).mono ?_⟩
 rintro _ w14 ⟨rfl, N14, k14⟩
 refine ⟨_, rfl, (NR_load N14 (by show ([] : List Wr1).length ≤ _; decide) _ dcc (r := [ByteArray.mk #[48], ByteArray.mk #[45, 49]]) (by kernel_rfl) (p := (0, -1)) (by kernel_rfl) (ld_new own 9 200000 (l := [pE own (0, 0), pE own (1, 0), pE own (-1, 0), pE own (0, 1)]) (by show ((4 : Nat) : Int) < 9; decide) dcc smm)).mono ?_⟩
 rintro _ w16 ⟨rfl, N16, k16⟩
 have N16' := N16
 obtain ⟨⟨M, hM, hx, h0, g, s, o, t, F, hE, hS, h4, h5, h6⟩, h3⟩ := N16'
 refine ⟨_, rfl, (engine_spec hS).mono ?_⟩
 rintro _ w18 ⟨rfl, e18⟩
 rw [e18]
 refine ⟨_, rfl, (whole_spec hE).mono ?_⟩
 rintro _ w20 ⟨rfl, e20⟩
 rw [e20]
 exact ⟨_, rfl, nope rfl ⟨sh, rfl, N16, fun i hi => hx.heap (hlow i hi)⟩⟩
end Go.Proofs.YtjcnjlaelhdjeaaGreatDoor
namespace Go.Proofs.YtjcnjlaelhdjeaaGreatDoor
open Go Go.Vc Go.RowKit Go.Proofs Go.Lin Go.Chk Go.Runs Go.Code Go.Que Go.Flw Go.Eng
set_option linter.unusedVariables false
abbrev onP (p : Po) (C : List Int) (d : Bool) : List En := [(p, C, d, 0)]
abbrev KP (p : Po) : List Int := [2 * idK p, 2 * idK p + 1]
theorem setP {p : Po} {C : List Int} {d : Bool} {c : Ce} (hp : pos c = p) (hy : inY c) {b : Int} (hb : bMay b = true) : setE (onP p C d) c b = (onP p (kSet p C c b).1 (d || (kAt p C c != b)), 0) := by
 subst hp
 unfold setE
 rw [if_neg (by simp [firstI]), if_neg (by simpa using hy), if_neg (by rw [hb]; decide)]
 simp [firstI]
theorem atP {p : Po} {C : List Int} {d : Bool} {c : Ce} (hp : pos c = p) (hy : inY c) : atE (onP p C d) c = kAt p C c := by
 subst hp
 unfold atE
 have hy1 : ¬ c.2.1 < 0 := by unfold inY at hy; omega
 rw [if_neg (by simp [firstI]), if_neg hy1]
 simp [firstI]
theorem flP {D : Dk} {p : Po} {C : List Int} {d : Bool} : flE D (onP p C d) p = (((saveE D (p, C, d, 0)).1, [(saveE D (p, C, d, 0)).2.1]), (saveE D (p, C, d, 0)).2.2) := by
 unfold flE
 rw [if_pos (by simp [firstI])]
 simp [firstI]
theorem ldP {own : Int} {D : Dk} {p : Po} (hp : inT p) : ldE own 9 D [] p = ((D, onP p (cellsB own p (Go.Chk.ldS D (idK p)).1) false), 0) := by
 have hr : roomE 9 D [] = ((D, []), 0) := by unfold roomE; rw [if_pos dcc]
 unfold ldE
 rw [if_neg (by simpa using hp), if_neg (by simp [firstI]), hr, if_neg smm]
 rfl
theorem tru_one {seed : Int} {n : Nat} {D : Dk} {p : Po} {C : List Int} {d : Bool} (hp : inT p) (hs : Sfe (KP p) 16393 n D) (hg : goodL (onP p C d)) (hc : d = false → C = cellsB seed p (Go.Chk.ldS D (idK p)).1) : Tru seed (KP p) n (fun q => q = p) (D, onP p C d) := by
 refine ⟨hs, by simp [nodL], hg, fun e he => ?_, fun q hq => ?_, fun e he hd => ?_⟩
 ·simp only [alj46] at he; rw [he]
 ·subst hq; exact ⟨hp, by simp, by simp⟩
 ·simp only [alj46] at he; subst he; exact hc hd
theorem in00 : inT (0, 0) := by decide
theorem id00 : 2 ≤ 2 * idK (0, 0) := by have := idK_pos in00; omega
theorem no_rec {D : Dk} (hl : D.l = []) (hk : ∀ x ∈ D.safe, x.1 ∈ KP (0, 0)) : (Go.Chk.ldS D 0).2.2 = false := by
 refine ld0_none hl fun x hx => ?_
 have h := hk x hx
 have := id00
 simp only [ali16, ali36, or_false] at h
 omega
theorem crash_in {D : Dk} {K : List Int} {m : Nat} (h : ∀ x ∈ D.l, x.1 ∈ K ∧ x.2.length ≤ m) (h1 : D.l.length ≤ 1) (hm : m ≤ 1000000) (keep : Int) : lenB D.l ≤ 1000000 ∧ inI (crashD D keep).2 := by
 have h2 : lenB D.l ≤ 1 * 1000000 := ali41 (lenB_le (m := 1000000) fun x hx => ali41 (h x hx).2 hm) (alj63 _ h1)
 have h2 : lenB D.l ≤ 1000000 := by omega
 refine ⟨h2, ?_⟩
 show inI (lenB D.l - keepD D keep)
 unfold keepD inI
 omega
theorem tc_model {own : Int} {C1 C2 : List Int} {d2 : Bool} {D1 : Dk} (h1 : Sfe (KP (0, 0)) 16393 1 D1) (hC1 : C1 = cellsB own (0, 0) (Go.Chk.ldS D1 (idK (0, 0))).1) (g1 : C2.length = 8192) (g2 : ∀ b ∈ C2, bMay b = true) (hd : d2 = false → C2 = C1) {f : Int} (hf : -2 ≤ f ∧ f ≤ 2) (keep : Int) :
  ∃ (D2 : Dk) (y : En) (e : Int) (C3 : List Int), flE (failD D1 f) (onP (0, 0) C2 d2) (0, 0) = ((D2, [y]), e) ∧ D2.l.length ≤ 1000000 ∧ lenB D2.l ≤ 1099511627776 ∧ (Go.Chk.ldS (crashD D2 keep).1 0).2.2 = false ∧ inI (crashD D2 keep).2 ∧
   ldE own 9 (crashD D2 keep).1 [] (0, 0) = (((crashD D2 keep).1, onP (0, 0) C3 false), 0) ∧ ((e = 0 ∧ C3 = C2) ∨ (e = 9 ∧ (C3 = C1 ∨ C3 = C2))) := by
 have hid := idK_pos in00
 have hle := chunk_le g1 g2
 rw [flP]
 have hkk : ∀ D2 : Dk, (∀ x ∈ D2.safe, x.1 ∈ KP (0, 0)) → (∀ x ∈ D2.l, x.1 ∈ KP (0, 0) ∧ x.2.length ≤ 16393) → D2.l.length ≤ 1 → D2.l.length ≤ 1000000 ∧ lenB D2.l ≤ 1099511627776 ∧ (Go.Chk.ldS (crashD D2 keep).1 0).2.2 = false ∧ inI (crashD D2 keep).2 := by
  intro D2 q1 q2 q3
  obtain ⟨q4, q5⟩ := crash_in q2 q3 dcc keep
  exact ⟨by omega, by omega, no_rec rfl (crashG_keys _ _ _ q1 fun x hx => (q2 x hx).1), q5⟩
 cases d2 with
 | true =>
   have e1 : saveE (failD D1 f) ((0, 0), C2, true, 0) = ((svS (failD D1 f) (idK (0, 0)) (wrB (ofC C2))).1, ((0, 0), C2, decide ((svS (failD D1 f) (idK (0, 0)) (wrB (ofC C2))).2 ≠ 0), 0), (svS (failD D1 f) (idK (0, 0)) (wrB (ofC C2))).2) := rfl
   rw [e1]
   obtain ⟨l1, l2, l3⟩ := save_left h1 (id := idK (0, 0)) (body := wrB (ofC C2)) omm smm smm omm omm dcc hf
   obtain ⟨-, -, -, ⟨v, -, hs⟩, -⟩ := h1.save (id := idK (0, 0)) (body := wrB (ofC C2)) omm smm smm omm omm dcc
   have hcr := save_crash h1 (id := idK (0, 0)) (body := wrB (ofC C2)) omm smm smm omm omm dcc hf keep
   obtain ⟨k1, k2, k3, k4⟩ := hkk _ l1 l2 l3
   refine ⟨_, _, _, cellsB own (0, 0) (Go.Chk.ldS (crashD (svS (failD D1 f) (idK (0, 0)) (wrB (ofC C2))).1 keep).1 (idK (0, 0))).1, rfl, k1, k2, k3, k4, ldP in00, ?_⟩
   rcases hcr with ⟨c1, c2⟩ | ⟨c1, c2 | c2⟩
   ·exact .inl ⟨c1, by rw [c2, hs]; exact cellsB_wr own (0, 0) g1 g2⟩
   ·exact .inr ⟨c1, .inl (by rw [c2, hC1])⟩
   ·exact .inr ⟨c1, .inr (by rw [c2, hs]; exact cellsB_wr own (0, 0) g1 g2)⟩
 | false =>
   have e1 : saveE (failD D1 f) ((0, 0), C2, false, 0) = (failD D1 f, ((0, 0), C2, false, 0), 0) := rfl
   rw [e1]
   have hfl : (failD D1 f).l = [] ∧ (failD D1 f).safe = D1.safe := by unfold failD; split <;> exact ⟨h1.c.l, rfl⟩
   have hcr : (crashD (failD D1 f) keep).1 = D1 := by
    rw [crash_nil hfl.1]
    obtain ⟨a, b, c⟩ := h1.c
    unfold failD
    split
    ·cases D1; simp only at a b c; subst a b c; rfl
    ·cases D1; simp only at a b c; subst a b c; rfl
   obtain ⟨k1, k2, k3, k4⟩ := hkk (failD D1 f) (by rw [hfl.2]; exact h1.k) (by rw [hfl.1]; exact fun x hx => (by cases hx)) (by rw [hfl.1]; exact alj66 _)
   refine ⟨_, _, _, C2, rfl, k1, k2, k3, k4, ?_, .inl ⟨rfl, rfl⟩⟩
   rw [hcr, hd rfl, hC1]
   exact ldP in00
theorem at_made (seed : Int) {c : Ce} (hy : inY c) (hp : pos c = (0, 0)) : kAt (0, 0) (made seed (0, 0)) c = ofG c.2.1 (ground seed c.1 c.2.2) := by
 have hg := made_get seed (pos c) (k := (idx c).toNat) (by have := idx_in hy; omega)
 have hi := idx_in hy
 rw [Int.toNat_of_nonneg hi.1, cellAt_idx hy, atC_get (c := made seed (pos c)) (i := idx c) hi.1 (by rw [made_len]; omega), hp] at hg
 generalize made seed (0, 0) = C at *
 have hk : inK (0, 0) c = true := (inK_iff _ _).2 ⟨hy, hp⟩
 unfold kAt
 rw [hk, if_pos rfl]
 exact Option.some.inj hg
end Go.Proofs.YtjcnjlaelhdjeaaGreatDoor
namespace Go.Proofs.YtjcnjlaelhdjeaaGreatDoor
open Go Go.Vc Go.RowKit Go.Proofs Go.Lin Go.Chk Go.Runs Go.Code Go.Que Go.Flw Go.Eng
set_option linter.unusedVariables false
structure Cok (c : Ce) : Prop where
 x : 0 ≤ c.1 ∧ c.1 < 16
 y : 0 ≤ c.2.1 ∧ c.2.1 < 32
 z : 0 ≤ c.2.2 ∧ c.2.2 < 16
theorem Cok.pos {c : Ce} (h : Cok c) : pos c = (0, 0) := by
 obtain ⟨h1, h2, h3⟩ := h
 unfold Go.Chk.pos
 rw [show c.1 / 16 = 0 by omega, show c.2.2 / 16 = 0 by omega]
theorem Cok.ok {c : Ce} (h : Cok c) : okC c := by
 obtain ⟨h1, h2, h3⟩ := h
 unfold okC inI
 omega
theorem Cok.wide {c : Ce} (h : Cok c) : wideC c := by
 obtain ⟨h1, h2, h3⟩ := h
 unfold wideC
 omega
theorem cellS_size {c : Ce} (h : Cok c) : (cellS c).size ≤ 100 := by
 have sx := (dec_num (n := c.1) (by have := h.x; omega)).2.2
 have sy := (dec_num (n := c.2.1) h.y).2.2
 have sz := (dec_num (n := c.2.2) (by have := h.z; omega)).2.2
 have s1 : (ByteArray.mk #[32]).size = 1 := rfl
 unfold cellS
 simp only [ByteArray.size_append]
 omega
theorem words_at {c : Ce} (h : Cok c) : wordsK (ByteArray.mk #[97, 116, 32] ++ cellS c) = [ByteArray.mk #[97, 116], decT c.1, decT c.2.1, decT c.2.2] := by
 have hx := dec_wd (n := c.1) (by have := h.x; omega)
 have hy := dec_wd (n := c.2.1) h.y
 have hz := dec_wd (n := c.2.2) (by have := h.z; omega)
 refine words_of ?_
 unfold cellS
 simp only [bl_app, ali15]
 show wordsL ([97, 116] ++ 32 :: (bl (decT c.1) ++ 32 :: (bl (decT c.2.1) ++ 32 :: bl (decT c.2.2)))) = _
 rw [words_word _ dcc dcc, words_word _ hx.1 hx.2, words_word _ hy.1 hy.2, words_last hz.1 hz.2]
 rfl
theorem words_edit {c : Ce} (h : Cok c) {t : ByteArray} (ht : Wd t) : wordsK (((ByteArray.mk #[101, 100, 105, 116, 32] ++ cellS c) ++ ByteArray.mk #[32]) ++ t) = [ByteArray.mk #[101, 100, 105, 116], decT c.1, decT c.2.1, decT c.2.2, t] := by
 have hx := dec_wd (n := c.1) (by have := h.x; omega)
 have hy := dec_wd (n := c.2.1) h.y
 have hz := dec_wd (n := c.2.2) (by have := h.z; omega)
 refine words_of ?_
 unfold cellS
 simp only [bl_app, ali15]
 show wordsL ([101, 100, 105, 116] ++ 32 :: (bl (decT c.1) ++ 32 :: (bl (decT c.2.1) ++ 32 :: (bl (decT c.2.2) ++ 32 :: bl t)))) = _
 rw [words_word _ dcc dcc, words_word _ hx.1 hx.2, words_word _ hy.1 hy.2, words_word _ hz.1 hz.2, words_last ht.1 ht.2]
 rfl
theorem words_two {a d : ByteArray} (ha : Wd a) (hd : Wd d) : wordsK ((a ++ ByteArray.mk #[32]) ++ d) = [a, d] := by
 refine words_of ?_
 simp only [bl_app, ali15]
 show wordsL (bl a ++ 32 :: bl d) = _
 rw [words_word _ ha.1 ha.2, words_last hd.1 hd.2]
 rfl
section
variable {w0 u u' : World} {R : Rws} {sh : Nat} {own : Int} {T T' : Tb} {k : Nat}
theorem NR.call (h : NR w0 R sh own T k u) {f : FuncId} {args : Array Value} {v : Value} (hc : Cal f args u fun e w' => e = v ∧ Ext u w') : Cal f args u fun e w' => e = v ∧ NR w0 R sh own T k w' ∧ KpR R u w' :=
 hc.mono fun e w' ⟨he, x⟩ => ⟨he, (h.ext x).1, (h.ext x).2⟩
theorem NR.call0 (h : NR w0 R sh own T k u) {f : FuncId} {args : Array Value} {v : Value} (hc : Cal f args u fun e w' => e = v ∧ w' = u) : Cal f args u fun e w' => e = v ∧ NR w0 R sh own T k w' ∧ KpR R u w' :=
 h.call (hc.mono fun e w' ⟨he, x⟩ => ⟨he, x ▸ Ext.rfl' _⟩)
theorem NR_atc (h : NR w0 R sh own T k u) {c : Ce} (hc : Cok c) :
  Cal 14 #[sh, .string (ByteArray.mk #[97, 116, 32] ++ cellS c)] u fun e w' => e = Value.string (cellT (atE T.2 c)) ∧ NR w0 R sh own T k w' ∧ KpR R u w' :=
 NR_at h _ (by have := cellS_size hc; rw [ByteArray.size_append, show (ByteArray.mk #[97, 116, 32]).size = 3 from rfl]; omega) (words_at hc) (pVec_of (dec_num (by have := hc.x; omega)).1 (dec_num hc.y).1 (dec_num (by have := hc.z; omega)).1) hc.ok
theorem NR_editc (h : NR w0 R sh own T k u) (hk : k ≤ 800000) {c : Ce} (hc : Cok c) {b : Int} (hb : 0 ≤ b ∧ b ≤ 15) (hm : bMay b = true) {l' : List En} (h0 : setE T.2 c b = (l', 0)) :
  Cal 14 #[sh, .string (((ByteArray.mk #[101, 100, 105, 116, 32] ++ cellS c) ++ ByteArray.mk #[32]) ++ bName b)] u fun e w' => e = Value.string (ByteArray.mk #[111, 107]) ∧ NR w0 R sh own (T.1, l') (k + 7) w' ∧ KpR R u w' := by
 obtain ⟨⟨nb, -⟩, sb⟩ := name_all hb hm
 have s1 := cellS_size hc
 refine NR_edit h hk _ (by simp only [ByteArray.size_append]; rw [show (ByteArray.mk #[101, 100, 105, 116, 32]).size = 5 from rfl, show (ByteArray.mk #[32]).size = 1 from rfl]; omega) (words_edit hc (name_wd hb hm)) (c := c) (b := b) ?_ hc.wide h0
 unfold pEdit
 rw [pVec_of (dec_num (by have := hc.x; omega)).1 (dec_num hc.y).1 (dec_num (by have := hc.z; omega)).1]
 simp only
 rw [pBlk_of nb]
theorem NR_crashc (h : NR w0 R sh own T k u) (hT : Tab10 w0) {n : Int} (hn : n.natAbs < 10 ^ 15)
  (hW : T.1.l.length ≤ 1000000) (hB : lenB T.1.l ≤ 1099511627776) (hk : (Go.Chk.ldS (crashD T.1 n).1 0).2.2 = false) (hx : inI (crashD T.1 n).2) :
  Cal 14 #[sh, .string (ByteArray.mk #[99, 114, 97, 115, 104, 32] ++ decW n)] u fun e w' => e = Value.string (itoaT (crashD T.1 n).2) ∧ NR w0 R sh own ((crashD T.1 n).1, []) k w' ∧ KpR R u w' :=
 NR_crash h hT _ (by have := decW_size hn; show (ByteArray.mk #[99, 114, 97, 115, 104, 32] ++ decW n).size ≤ _; rw [ByteArray.size_append, show (ByteArray.mk #[99, 114, 97, 115, 104, 32]).size = 6 from rfl]; omega) (words_two (a := ByteArray.mk #[99, 114, 97, 115, 104]) ⟨by decide, by decide⟩ (decW_wd hn))
  (by unfold pNum pWord; simp only [decW_num hn, if_true]) hW hB hk hx
theorem NR_failc (h : NR w0 R sh own T k u) {n : Int} (hn : n.natAbs < 10 ^ 15) :
  Cal 14 #[sh, .string (ByteArray.mk #[102, 97, 105, 108, 32] ++ decW n)] u fun e w' => e = Value.string (ByteArray.mk #[111, 107]) ∧ NR w0 R sh own (failD T.1 n, T.2) k w' ∧ KpR R u w' :=
 NR_fail h _ (by have := decW_size hn; show (ByteArray.mk #[102, 97, 105, 108, 32] ++ decW n).size ≤ _; rw [ByteArray.size_append, show (ByteArray.mk #[102, 97, 105, 108, 32]).size = 5 from rfl]; omega) (words_two (a := ByteArray.mk #[102, 97, 105, 108]) ⟨by decide, by decide⟩ (decW_wd hn))
  (by unfold pNum pWord; simp only [decW_num hn, if_true]) (by unfold inI; omega)
def flush0 : ByteArray := ByteArray.mk #[102, 108, 117, 115, 104, 32, 48, 32, 48]
theorem words_flush : wordsK flush0 = [ByteArray.mk #[102, 108, 117, 115, 104], w0b, w0b] := by kernel_rfl
end
theorem alive_spec {w : World} {m : Int} (hm : w.cell? ⟨0, 0, none⟩ = some (.int .i64 m)) : Cal 19 #[] w fun e w' => e = true ∧ Ext w w' := by
 apply top_alive.vc
 refine (run0_spec hm).mono ?_
 rintro _ w0 ⟨rfl, x0⟩
 exact ⟨_, rfl, by kernel_rfl, x0⟩
theorem kSet_same {p : Po} {C : List Int} (hl : C.length = 8192) {c : Ce} (hp : p = pos c) (hy : inY c) {b : Int} (h : kAt p C c = b) : (kSet p C c b).1 = C := by
 unfold kSet
 split
 ·rfl
 ·split
  ·rfl
  ·have hi := idx_in hy
   have hk : inK p c = true := (inK_iff p c).2 ⟨hy, hp.symm⟩
   unfold kAt at h
   rw [if_pos hk] at h
   have := atC_get (c := C) (i := idx c) hi.1 (by rw [hl]; omega)
   rw [h] at this
   obtain ⟨h1, h2⟩ := ali03.1 this
   simp only
   rw [← h2]; exact List.set_getElem_self h1
theorem ofG_in (y g : Int) : 0 ≤ ofG y g ∧ ofG y g ≤ 8 := by
 unfold ofG
 repeat' split
 all_goals omega
theorem cellT_pos {b : Int} (h : 0 ≤ b) : cellT b = bName b := by
 unfold cellT
 rw [if_neg omm]
theorem five_ok (own : Int) : nodL [pE own (0, 0), pE own (1, 0), pE own (-1, 0), pE own (0, 1), pE own (0, -1)] ∧ goodL [pE own (0, 0), pE own (1, 0), pE own (-1, 0), pE own (0, 1), pE own (0, -1)] := by
 constructor
 ·show ([(0, 0), (1, 0), (-1, 0), (0, 1), (0, -1)] : List Po).Nodup
  decide
 ·intro e he
  simp only [ali16, ali36, or_false] at he
  have key : ∀ (p : Po) (C : List Int), C = made own p → C.length = 8192 ∧ ∀ b ∈ C, bMay b = true := fun p C h => by rw [h]; exact ⟨made_len own p, made_may own p⟩
  rcases he with he | he | he | he | he
  ·exact key (0, 0) _ (by rw [he])
  ·exact key (1, 0) _ (by rw [he])
  ·exact key (-1, 0) _ (by rw [he])
  ·exact key (0, 1) _ (by rw [he])
  ·exact key (0, -1) _ (by rw [he])
end Go.Proofs.YtjcnjlaelhdjeaaGreatDoor
namespace Go.Proofs.YtjcnjlaelhdjeaaGreatDoor
open Go Go.Vc Go.RowKit Go.Proofs Go.Lin Go.Chk Go.Runs Go.Code Go.Que Go.Flw Go.Eng
set_option linter.unusedVariables false
set_option maxRecDepth 100000 in
theorem tc_end {w w2 u : World} {Rw : Rws} {sh : Nat} {own : Int} {T : Tb} {k ba1 bb1 bx1 by1 bw bn bt : Nat} {wx wy nx ny tx ty td : ByteArray} {m : Int} (N : NR w2 Rw sh own T k u)
  (hk : ∀ i ∈ [ba1, bb1, bx1, by1, bw, bn, bt], i ∈ Rw.map (·.1)) (rt : (bt, [Value.string tx, .string ty], 9) ∈ Rw) (rw1 : (bw, [Value.string wx, .string wy], 9) ∈ Rw) (rn : (bn, [Value.string nx, .string ny], 9) ∈ Rw)
  (M2 : w2.cell? ⟨0, 0, none⟩ = some (.int .i64 m)) (xw2 : Ext w w2)
  (hq : (td = ByteArray.mk #[111, 107] ∧ tx = nx ∧ ty = ny) ∨ (td ≠ ByteArray.mk #[111, 107] ∧ ((tx = wx ∧ ty = wy) ∨ (tx = nx ∧ ty = ny)))) (R : Ending → World → Prop) (hR : R = fun e w' => e = .returned (.bool true) ∧ Ext w w') :
  InB (some ⟨bt, 0, none⟩) 0 2 ∧ ∃ (t112 : ByteArray), ld u.drew (padd (some ⟨bt, 0, none⟩) ((0 : Int).toNat * 1)) = some (.string t112) ∧
 InB (some ⟨bw, 0, none⟩) 0 2 ∧ ∃ (t113 : ByteArray), ld u.drew (padd (some ⟨bw, 0, none⟩) ((0 : Int).toNat * 1)) = some (.string t113) ∧
 Br (strEq t112 t113)
 (InB (some ⟨bt, 0, none⟩) 1 2 ∧ ∃ (t114 : ByteArray), ld u.drew (padd (some ⟨bt, 0, none⟩) ((1 : Int).toNat * 1)) = some (.string t114) ∧
 InB (some ⟨bw, 0, none⟩) 1 2 ∧ ∃ (t115 : ByteArray), ld u.drew (padd (some ⟨bw, 0, none⟩) ((1 : Int).toNat * 1)) = some (.string t115) ∧
 InB (some ⟨bt, 0, none⟩) 0 2 ∧ ∃ (t116 : ByteArray), ld u.drew.drew (padd (some ⟨bt, 0, none⟩) ((0 : Int).toNat * 1)) = some (.string t116) ∧
 InB (some ⟨bn, 0, none⟩) 0 2 ∧ ∃ (t117 : ByteArray), ld u.drew.drew (padd (some ⟨bn, 0, none⟩) ((0 : Int).toNat * 1)) = some (.string t117) ∧
 Br (strEq t116 t117)
 (InB (some ⟨bt, 0, none⟩) 1 2 ∧ ∃ (t118 : ByteArray), ld u.drew.drew (padd (some ⟨bt, 0, none⟩) ((1 : Int).toNat * 1)) = some (.string t118) ∧
 InB (some ⟨bn, 0, none⟩) 1 2 ∧ ∃ (t119 : ByteArray), ld u.drew.drew (padd (some ⟨bn, 0, none⟩) ((1 : Int).toNat * 1)) = some (.string t119) ∧
 Br (strEq td (ByteArray.mk #[111, 107]))
 (Br (strEq t118 t119)
 (Calls Tryz.prog 19 #[] u.drew.drew (fun e w120 => ∃ (b121 : Bool), e = .returned (.bool b121) ∧ w120.heap[ba1]? = u.drew.drew.heap[ba1]? ∧ w120.heap[bb1]? = u.drew.drew.heap[bb1]? ∧ w120.heap[bx1]? = u.drew.drew.heap[bx1]? ∧ w120.heap[by1]? = u.drew.drew.heap[by1]? ∧ w120.heap[bw]? = u.drew.drew.heap[bw]? ∧ w120.heap[bn]? = u.drew.drew.heap[bn]? ∧ w120.heap[bt]? = u.drew.drew.heap[bt]? ∧
 R (.returned (.bool b121)) w120))
 (R (.returned (.bool false)) u.drew.drew))
 (Br (strEq t114 t115)
 (Calls Tryz.prog 19 #[] u.drew.drew (fun e w122 => ∃ (b123 : Bool), e = .returned (.bool b123) ∧ w122.heap[ba1]? = u.drew.drew.heap[ba1]? ∧ w122.heap[bb1]? = u.drew.drew.heap[bb1]? ∧ w122.heap[bx1]? = u.drew.drew.heap[bx1]? ∧ w122.heap[by1]? = u.drew.drew.heap[by1]? ∧ w122.heap[bw]? = u.drew.drew.heap[bw]? ∧ w122.heap[bn]? = u.drew.drew.heap[bn]? ∧ w122.heap[bt]? = u.drew.drew.heap[bt]? ∧
 R (.returned (.bool b123)) w122))
 (Br (strEq t118 t119)
 (Calls Tryz.prog 19 #[] u.drew.drew (fun e w124 => ∃ (b125 : Bool), e = .returned (.bool b125) ∧ w124.heap[ba1]? = u.drew.drew.heap[ba1]? ∧ w124.heap[bb1]? = u.drew.drew.heap[bb1]? ∧ w124.heap[bx1]? = u.drew.drew.heap[bx1]? ∧ w124.heap[by1]? = u.drew.drew.heap[by1]? ∧ w124.heap[bw]? = u.drew.drew.heap[bw]? ∧ w124.heap[bn]? = u.drew.drew.heap[bn]? ∧ w124.heap[bt]? = u.drew.drew.heap[bt]? ∧
 R (.returned (.bool b125)) w124))
 (R (.returned (.bool false)) u.drew.drew))))
 (Br (strEq td (ByteArray.mk #[111, 107]))
 (R (.returned (.bool false)) u.drew.drew)
 (Br (strEq t114 t115)
 (Calls Tryz.prog 19 #[] u.drew.drew (fun e w126 => ∃ (b127 : Bool), e = .returned (.bool b127) ∧ w126.heap[ba1]? = u.drew.drew.heap[ba1]? ∧ w126.heap[bb1]? = u.drew.drew.heap[bb1]? ∧ w126.heap[bx1]? = u.drew.drew.heap[bx1]? ∧ w126.heap[by1]? = u.drew.drew.heap[by1]? ∧ w126.heap[bw]? = u.drew.drew.heap[bw]? ∧ w126.heap[bn]? = u.drew.drew.heap[bn]? ∧ w126.heap[bt]? = u.drew.drew.heap[bt]? ∧
 R (.returned (.bool b127)) w126))
 (R (.returned (.bool false)) u.drew.drew))))
 (InB (some ⟨bt, 0, none⟩) 0 2 ∧ ∃ (t128 : ByteArray), ld u.drew.drew (padd (some ⟨bt, 0, none⟩) ((0 : Int).toNat * 1)) = some (.string t128) ∧
 InB (some ⟨bn, 0, none⟩) 0 2 ∧ ∃ (t129 : ByteArray), ld u.drew.drew (padd (some ⟨bn, 0, none⟩) ((0 : Int).toNat * 1)) = some (.string t129) ∧
 Br (strEq t128 t129)
 (InB (some ⟨bt, 0, none⟩) 1 2 ∧ ∃ (t130 : ByteArray), ld u.drew.drew (padd (some ⟨bt, 0, none⟩) ((1 : Int).toNat * 1)) = some (.string t130) ∧
 InB (some ⟨bn, 0, none⟩) 1 2 ∧ ∃ (t131 : ByteArray), ld u.drew.drew (padd (some ⟨bn, 0, none⟩) ((1 : Int).toNat * 1)) = some (.string t131) ∧
 Br (strEq td (ByteArray.mk #[111, 107]))
 (Br (strEq t130 t131)
 (Calls Tryz.prog 19 #[] u.drew.drew (fun e w132 => ∃ (b133 : Bool), e = .returned (.bool b133) ∧ w132.heap[ba1]? = u.drew.drew.heap[ba1]? ∧ w132.heap[bb1]? = u.drew.drew.heap[bb1]? ∧ w132.heap[bx1]? = u.drew.drew.heap[bx1]? ∧ w132.heap[by1]? = u.drew.drew.heap[by1]? ∧ w132.heap[bw]? = u.drew.drew.heap[bw]? ∧ w132.heap[bn]? = u.drew.drew.heap[bn]? ∧ w132.heap[bt]? = u.drew.drew.heap[bt]? ∧
 R (.returned (.bool b133)) w132))
 (R (.returned (.bool false)) u.drew.drew))
 (Br (strEq t130 t131)
 (Calls Tryz.prog 19 #[] u.drew.drew (fun e w134 => ∃ (b135 : Bool), e = .returned (.bool b135) ∧ w134.heap[ba1]? = u.drew.drew.heap[ba1]? ∧ w134.heap[bb1]? = u.drew.drew.heap[bb1]? ∧ w134.heap[bx1]? = u.drew.drew.heap[bx1]? ∧ w134.heap[by1]? = u.drew.drew.heap[by1]? ∧ w134.heap[bw]? = u.drew.drew.heap[bw]? ∧ w134.heap[bn]? = u.drew.drew.heap[bn]? ∧ w134.heap[bt]? = u.drew.drew.heap[bt]? ∧
 R (.returned (.bool b135)) w134))
 (R (.returned (.bool false)) u.drew.drew)))
 (Br (strEq td (ByteArray.mk #[111, 107]))
 (R (.returned (.bool false)) u.drew.drew)
 (R (.returned (.bool false)) u.drew.drew))) := by
  have rt : Row u bt [Value.string tx, .string ty] 9 := N.2 _ rt
  have rw1 : Row u bw [Value.string wx, .string wy] 9 := N.2 _ rw1
  have rn : Row u bn [Value.string nx, .string ny] 9 := N.2 _ rn
  have N2 := ((N.ext (Ext.dr u)).1.ext (Ext.dr u.drew)).1
  have hmN : u.drew.drew.cell? ⟨0, 0, none⟩ = some (.int .i64 m) := by
   have : Vc.ld w2 (some ⟨0, 0, none⟩) = some (.int .i64 m) := M2
   exact N2.x.ld this
  have ld0 : ∀ {b : Nat} {p q : ByteArray}, Row u b [Value.string p, .string q] 9 → ld u.drew (padd (some ⟨b, 0, none⟩) ((0 : Int).toNat * 1)) = some (.string p) := fun h => by rw [padd_row, (h.ext (Ext.dr _)).ld]; rfl
  have ld1 : ∀ {b : Nat} {p q : ByteArray}, Row u b [Value.string p, .string q] 9 → ld u.drew (padd (some ⟨b, 0, none⟩) ((1 : Int).toNat * 1)) = some (.string q) := fun h => by rw [padd_row, (h.ext (Ext.dr _)).ld]; rfl
  have in0 : ∀ {b : Nat}, InB (some ⟨b, 0, none⟩) 0 2 := ⟨rfl, by decide, by decide⟩
  have in1 : ∀ {b : Nat}, InB (some ⟨b, 0, none⟩) 1 2 := ⟨rfl, by decide, by decide⟩
  have T1 : ∀ {p q : ByteArray}, strEq p q = true → p = q := fun h => (strEq_iff _ _).1 h
  have T0 : ∀ {p q : ByteArray}, strEq p q = false → p ≠ q := fun {p q} h e => by rw [(strEq_iff p q).2 e] at h; cases h
  have al : Calls Tryz.prog 19 #[] u.drew.drew fun e w' => e = .returned (.bool true) ∧ (∀ i ∈ [ba1, bb1, bx1, by1, bw, bn, bt], w'.heap[i]? = u.drew.drew.heap[i]?) ∧ R (.returned (.bool true)) w' := by
   refine (N2.call (alive_spec hmN)).mono ?_
   rintro e w' ⟨he, N', kp⟩
   rw [hR]
   exact ⟨he, fun i hi => kp i (hk i hi), rfl, xw2.tr N'.x⟩
  refine ⟨in0, _, ld0 rt, in0, _, ld0 rw1, Br.mk (fun c1 => ?_) (fun c1 => ?_)⟩
  ·have c1 := T1 c1
   refine ⟨in1, _, ld1 rt, in1, _, ld1 rw1, in0, _, ld0 rt, in0, _, ld0 rn, Br.mk (fun c2 => ?_) (fun c2 => ?_)⟩
   ·refine ⟨in1, _, ld1 rt, in1, _, ld1 rn, Br.mk (fun c3 => Br.mk (fun c4 => al.mono ?_) (fun c4 => ?_)) (fun c3 => Br.mk (fun c4 => al.mono ?_) (fun c4 => Br.mk (fun c5 => al.mono ?_) (fun c5 => ?_)))⟩
    ·rintro e w' ⟨rfl, kp, hr⟩
     exact ⟨_, rfl, kp _ (by simp), kp _ (by simp), kp _ (by simp), kp _ (by simp), kp _ (by simp), kp _ (by simp), kp _ (by simp), hr⟩
    ·exfalso
     have c3 := T1 c3
     have c4 := T0 c4
     rcases hq with q | q
     ·exact c4 q.2.2
     ·exact q.1 c3
    ·rintro e w' ⟨rfl, kp, hr⟩
     exact ⟨_, rfl, kp _ (by simp), kp _ (by simp), kp _ (by simp), kp _ (by simp), kp _ (by simp), kp _ (by simp), kp _ (by simp), hr⟩
    ·rintro e w' ⟨rfl, kp, hr⟩
     exact ⟨_, rfl, kp _ (by simp), kp _ (by simp), kp _ (by simp), kp _ (by simp), kp _ (by simp), kp _ (by simp), kp _ (by simp), hr⟩
    ·exfalso
     have c4 := T0 c4
     have c5 := T0 c5
     rcases hq with q | ⟨-, q | q⟩
     ·exact c5 q.2.2
     ·exact c4 q.2
     ·exact c5 q.2
   ·have c2 := T0 c2
    refine Br.mk (fun c3 => ?_) (fun c3 => Br.mk (fun c4 => al.mono ?_) (fun c4 => ?_))
    ·exfalso
     have c3 := T1 c3
     rcases hq with q | q
     ·exact c2 q.2.1
     ·exact q.1 c3
    ·rintro e w' ⟨rfl, kp, hr⟩
     exact ⟨_, rfl, kp _ (by simp), kp _ (by simp), kp _ (by simp), kp _ (by simp), kp _ (by simp), kp _ (by simp), kp _ (by simp), hr⟩
    ·exfalso
     have c4 := T0 c4
     rcases hq with q | ⟨-, q | q⟩
     ·exact c2 q.2.1
     ·exact c4 q.2
     ·exact c2 q.1
  ·have c1 := T0 c1
   refine ⟨in0, _, ld0 rt, in0, _, ld0 rn, Br.mk (fun c2 => ?_) (fun c2 => ?_)⟩
   ·refine ⟨in1, _, ld1 rt, in1, _, ld1 rn, Br.mk (fun c3 => Br.mk (fun c4 => al.mono ?_) (fun c4 => ?_)) (fun c3 => Br.mk (fun c4 => al.mono ?_) (fun c4 => ?_))⟩
    ·rintro e w' ⟨rfl, kp, hr⟩
     exact ⟨_, rfl, kp _ (by simp), kp _ (by simp), kp _ (by simp), kp _ (by simp), kp _ (by simp), kp _ (by simp), kp _ (by simp), hr⟩
    ·exfalso
     have c4 := T0 c4
     have c3 := T1 c3
     rcases hq with q | q
     ·exact c4 q.2.2
     ·exact q.1 c3
    ·rintro e w' ⟨rfl, kp, hr⟩
     exact ⟨_, rfl, kp _ (by simp), kp _ (by simp), kp _ (by simp), kp _ (by simp), kp _ (by simp), kp _ (by simp), kp _ (by simp), hr⟩
    ·exfalso
     have c4 := T0 c4
     rcases hq with q | ⟨-, q | q⟩
     ·exact c4 q.2.2
     ·exact c1 q.1
     ·exact c4 q.2
   ·have c2 := T0 c2
    have : False := by
     rcases hq with q | ⟨-, q | q⟩
     ·exact c2 q.2.1
     ·exact c1 q.1
     ·exact c2 q.1
    exact this.elim
end Go.Proofs.YtjcnjlaelhdjeaaGreatDoor
