import Derived.Test.YtjcnjlaelhdjeaaGreatDoorChecked
import Derived.KernelRfl
import Derived.Test.YtjcnjlaelhdjeaaGreatDoorD
set_option linter.all false
namespace Go.Proofs.YtjcnjlaelhdjeaaGreatDoor
open Go Go.Vc Go.RowKit Go.Proofs
set_option maxRecDepth 100000
set_option maxHeartbeats 8000000
set_option linter.unusedVariables false
variable {R : Ending → World → Prop} {w : World} {a0 a1 a2 a3 a4 a5 a6 a7 a8 a9 a0_0 a0_1 a0_2 a0_3 a0_4 a0_5 a0_6 a0_7 a0_8 a0_9 a1_0 a1_1 a1_2 a1_3 a1_4 a1_5 a1_6 a1_7 a1_8 a1_9 a2_0 a2_1 a2_2 a2_3 a2_4 a2_5 a2_6 a2_7 a2_8 a2_9 a3_0 a3_1 a3_2 a3_3 a3_4 a3_5 a3_6 a3_7 a3_8 a3_9 : Int}
abbrev K2 (i0 i1 : Nat) (x y : World) (P : Prop) : Prop := Kp i0 x y ∧ Kp i1 x y ∧ P
abbrev K3 (i0 i1 i2 : Nat) (x y : World) (P : Prop) : Prop := Kp i0 x y ∧ Kp i1 x y ∧ Kp i2 x y ∧ P
abbrev K4 (i0 i1 i2 i3 : Nat) (x y : World) (P : Prop) : Prop := Kp i0 x y ∧ Kp i1 x y ∧ Kp i2 x y ∧ Kp i3 x y ∧ P
abbrev K5 (i0 i1 i2 i3 i4 : Nat) (x y : World) (P : Prop) : Prop := Kp i0 x y ∧ Kp i1 x y ∧ Kp i2 x y ∧ Kp i3 x y ∧ Kp i4 x y ∧ P
abbrev K6 (i0 i1 i2 i3 i4 i5 : Nat) (x y : World) (P : Prop) : Prop := Kp i0 x y ∧ Kp i1 x y ∧ Kp i2 x y ∧ Kp i3 x y ∧ Kp i4 x y ∧ Kp i5 x y ∧ P
abbrev K7 (i0 i1 i2 i3 i4 i5 i6 : Nat) (x y : World) (P : Prop) : Prop := Kp i0 x y ∧ Kp i1 x y ∧ Kp i2 x y ∧ Kp i3 x y ∧ Kp i4 x y ∧ Kp i5 x y ∧ Kp i6 x y ∧ P
abbrev K8 (i0 i1 i2 i3 i4 i5 i6 i7 : Nat) (x y : World) (P : Prop) : Prop := Kp i0 x y ∧ Kp i1 x y ∧ Kp i2 x y ∧ Kp i3 x y ∧ Kp i4 x y ∧ Kp i5 x y ∧ Kp i6 x y ∧ Kp i7 x y ∧ P
abbrev Ra2 (F : Int → Int → World → Prop) (e : Ending) (w : World) : Prop := ∃ x0 x1 : Int, e = .returned (.agg #[x0, x1]) ∧ F x0 x1 w
abbrev Ra3 (F : Int → Int → Int → World → Prop) (e : Ending) (w : World) : Prop := ∃ x0 x1 x2 : Int, e = .returned (.agg #[x0, x1, x2]) ∧ F x0 x1 x2 w
abbrev Ra6 (F : Int → Int → Int → Int → Int → Int → World → Prop) (e : Ending) (w : World) : Prop := ∃ x0 x1 x2 x3 x4 x5 : Int, e = .returned (.agg #[x0, x1, x2, x3, x4, x5]) ∧ F x0 x1 x2 x3 x4 x5 w
abbrev Ra9 (F : Int → Int → Int → Int → Int → Int → Int → Int → Int → World → Prop) (e : Ending) (w : World) : Prop := ∃ x0 x1 x2 x3 x4 x5 x6 x7 x8 : Int, e = .returned (.agg #[x0, x1, x2, x3, x4, x5, x6, x7, x8]) ∧ F x0 x1 x2 x3 x4 x5 x6 x7 x8 w
abbrev Ri (F : Int → World → Prop) (e : Ending) (w : World) : Prop := ∃ x : Int, e = .returned x ∧ F x w
abbrev Rb (F : Bool → World → Prop) (e : Ending) (w : World) : Prop := ∃ x : Bool, e = .returned (.bool x) ∧ F x w
abbrev Rv (F : Value → World → Prop) (e : Ending) (w : World) : Prop := ∃ x : Value, e = .returned x ∧ F x w
abbrev Rs (F : Sl → World → Prop) (e : Ending) (w : World) : Prop := ∃ x : Sl, e = .returned x ∧ F x w
abbrev Rt (F : World → Prop) (e : Ending) (w : World) : Prop := e = .returned (.tuple #[]) ∧ F w
abbrev Nq (p : Option Addr) (j : Nat) : Prop := pblk p ≠ some j
abbrev Nb (i j : Nat) : Prop := pblk (some ⟨i, 0, none⟩) ≠ some j
abbrev Wt (w : World) (a : Addr) (n : Nat) : Prop := true = true ∧ Wr w (some a) n
abbrev Aw (w : World) (l : Array Value) (t : TypeId) (F : World → Prop) : Prop := ∀ v, v = w.alloc (.cells l t) → F v
abbrev Sw (w : World) (i : Nat) (l : Array Value) (F : World → Prop) : Prop := ∀ v, v = w.setRow i l → F v
theorem Tryz.noNG : NoNG Tryz.prog := ngB_ok (by kernel_rfl)
theorem Tryz.mixed : Tryz.prog.follows .mixedOrders = true := by kernel_rfl
theorem cq {pre : Prop} {f : FuncId} {fn : Func} (an : Ann) {args : List Value} {w : World} {R : Ending → World → Prop} (hf : Tryz.prog.funcs[f]? = some fn) (h : pre) (k : pre = vcFn Tryz.prog an fn args w R := by kernel_rfl) : Calls Tryz.prog f args.toArray w R :=
 calls_of_eq (an := an) Tryz.noNG Tryz.mixed hf h k
abbrev an0 : Ann := ⟨[], [], []⟩
inductive CQ | a
abbrev Cal : CQ := .a
instance : CoeFun CQ (fun _ => FuncId → Array Value → World → (Ending → World → Prop) → Prop) := ⟨fun _ => Calls Tryz.prog⟩
theorem cell_Index.vc (h :
 Aw w #[a0_0, a0_1, a0_2] 23 fun w0 =>
 Br (a0_1 < 0)
 (R (Value.tuple #[vzz, false]) w0)
 (Br (a0_1 ≥ 32)
 (R (Value.tuple #[vzz, false]) w0)
 (Cal 349 #[a0_2, (16:Int)] w0.drew (Ri fun x2 w1 => Kp w w0.drew w1 ∧
 LoadL w1 w 0 [a0_0] ∧ LoadL w1 (pnq w 1) 0 [a0_1] ∧ Cal 349 #[a0_0, (16:Int)] w1 (Ri fun x4 w3 => Kp w w1 w3 ∧
 LoadL w3 (pnq w 1) 0 [a0_1] ∧ R (Value.tuple #[(wqq ((wqq ((wqq ((wqq (a0_1 * 16)) + x2)) * 16)) + x4)), true]) w3))))) : Cal 296 #[.agg #[a0_0, a0_1, a0_2]] w R :=
 cq an0 Tryz.func296 h
theorem block_May.vc (h :
 Cal 170 #[a0] w (fun e w0 => ∃ (t1 : ByteArray), e = Value.string t1 ∧
 R (Value.bool (!strEq t1 (ByteArray.mk #[]))) w0)) : Cal 189 #[a0] w R :=
 cq an0 Tryz.func189 h
theorem chunk_Chunk_Set.vc {a0 : Addr} (h :
 Aw w #[a1_0, a1_1, a1_2] 23 fun w0 =>
 ∃ (x1 x2 : Int), LoadL w0.drew (padd (some a0) 0) 0 [x1, x2] ∧
 Cal 240 #[.agg #[x1, x2], .agg #[a1_0, a1_1, a1_2]] w0.drew (fun e w3 => ∃ (x4 : Int) (b5 : Bool), e = Value.tuple #[x4, b5] ∧ Kp w w0.drew w3 ∧
 Br (!b5)
 (R (5:Int) w3)
 (Cal 189 #[a2] w3 (Rb fun b7 w6 => Kp w w3 w6 ∧
 Br (!b7)
 (R (1:Int) w6)
 (∃ (s8 : Sl), ld w6 (padd (some a0) 2) = some (.slice s8.a s8.n s8.c) ∧
 Cal 376 #[s8, x4, a2] w6 (Rs fun s10 w9 => Kp w w6 w9 ∧
 (true = true ∧ Wr w9 (padd (some a0) 2) 1) ∧ pblk (padd (some a0) 2) ≠ some w.heap.size ∧ (∀ w11, w11 = setP w9 (padd (some a0) 2) [s10] →
 R (0:Int) w11))))))) : Cal 352 #[a0, .agg #[a1_0, a1_1, a1_2], a2] w R :=
 cq an0 Tryz.func352 h
theorem table_Table_save.vc {a0 : Addr} {a1 : Addr} (h :
 ∃ (b0 : Bool), ld w (padd (some a1) 1) = some (.bool b0) ∧
 Br (!b0)
 (R (0:Int) w)
 (∃ (p1 : Option Addr), ld w (padd (some a1) 0) = some (.pointer p1) ∧
 AndL (nnC p1) (AndL (nnC p1) (∃ (x2 x3 : Int), LoadL w (padd p1 0) 0 [x2, x3] ∧
 Cal 74 #[.agg #[x2, x3]] w (fun e w4 => ∃ (x5 x6 : Int), e = Value.agg #[x5, x6] ∧
 Cal 157 #[.agg #[x5, x6]] w4 (fun e w7 => ∃ (x8 : Int) (b9 : Bool), e = Value.tuple #[x8, b9] ∧
 ∃ (p10 : Option Addr), ld w7.drew (padd (some a0) 0) = some (.pointer p10) ∧
 ∃ (p11 : Option Addr), ld w7.drew (padd (some a1) 0) = some (.pointer p11) ∧
 Cal 236 #[p11] w7.drew (fun e w12 => ∃ (s13 : Sl), e = s13 ∧
 LoadL w12 (padd (some a0) 0) 0 [.pointer p10] ∧ Cal 235 #[p10, x8, s13] w12 (fun e w14 => ∃ (x15 : Int), e = x15 ∧
 (true = true ∧ Wr w14 (padd (some a1) 1) 1) ∧ (∀ w16, w16 = setP w14 (padd (some a1) 1) [.bool (x15 != 0)] →
 R x15 w16))))))))) : Cal 164 #[a0, a1] w R :=
 cq an0 Tryz.func164 h
theorem table_Table_out.vc {a0 : Addr} (h :
 ∃ (s0 : Sl), ld w (padd (some a0) 3) = some (.slice s0.a s0.n s0.c) ∧
 InB s0.a a1 s0.n ∧ ∃ (p1 : Option Addr), ld w (padd s0.a ((a1 : Int).toNat * 1)) = some (.pointer p1) ∧
 ∃ (s2 : Sl), ld w.drew (padd (some a0) 3) = some (.slice s2.a s2.n s2.c) ∧
 (0 : Int) ≤ a1 ∧ a1 ≤ ((s2.c : Nat) : Int) ∧ (0 : Int) ≤ a1 ∧ a1 ≤ a1 ∧ ∃ (s3 : Sl), ld w.drew (padd (some a0) 3) = some (.slice s3.a s3.n s3.c) ∧
 (0 : Int) ≤ (wqq (a1 + 1)) ∧ (wqq (a1 + 1)) ≤ ((s3.n : Nat) : Int) ∧ ∃ l4 : LV, Rd w.drew (slBase s3.a (((wqq (a1 + 1)) : Int).toNat) (s3.c) 1) l4 ∧ AppPre 8 1 w.drew ⟨(slBase s2.a (0) ((a1 : Int).toNat) 1), ((a1 : Int).toNat - 0), ((a1 : Int).toNat - 0)⟩ (s3.n - ((wqq (a1 + 1)) : Int).toNat) l4 ∧ ∀ (s5 : Sl) (w6 : World), AppRes 137 1 w.drew ⟨(slBase s2.a (0) ((a1 : Int).toNat) 1), ((a1 : Int).toNat - 0), ((a1 : Int).toNat - 0)⟩ (s3.n - ((wqq (a1 + 1)) : Int).toNat) l4 s5 w6 →
 LoadL w6 (padd (some a0) 3) 0 [s3] ∧ LoadL w6 (padd (some a0) 3) 0 [s2] ∧ (true = true ∧ Wr w6 (padd (some a0) 3) 1) ∧ (∀ w7, w7 = setP w6 (padd (some a0) 3) [s5] →
 R p1 w7)) : Cal 165 #[a0, a1] w R :=
 cq an0 Tryz.func165 h
theorem store_New.vc (h :
 Cal 297 #[a0] w (fun e w0 => ∃ (p1 : Option Addr), e = p1 ∧
 Aw w0 #[p1] 177 fun w2 =>
 R (Value.pointer (pzq w0)) w2)) : Cal 242 #[a0] w R :=
 cq an0 Tryz.func242 h
theorem slices_IndexFunc_item.vc {a0 : Sl} {a1 : Value} (h :
 ∃ I0 : Nat → Int → World → Prop,
 (∃ n1, I0 n1 (0) w) ∧
 ∀ (n1 : Nat) (us2 : Nat → Value) (x3 : Int) (w4 : World), I0 n1 x3 w4 →
 Br (decide (x3 < ((a0.n : Nat) : Int)))
 (InB a0.a x3 a0.n ∧ ∃ (p6 : Option Addr), ld w4 (padd a0.a ((x3 : Int).toNat * 1)) = some (.pointer p6) ∧
 callV Tryz.prog a1 [.pointer p6] w4 (fun e w7 => ∃ (b8 : Bool), e = b8 ∧
 Br b8
 (R x3 w7)
 (∃ n5, n5 < n1 ∧ I0 n5 ((wqq (x3 + 1))) w7)))
 (R (Value.int .i64 (-1)) w4)) : Cal 227 #[a0, a1] w R :=
 cq ⟨[(2, ⟨[(8, .int .i64)], [], []⟩)], [], []⟩ Tryz.func227 h
theorem table_Table_find_1.vc {a0 : Addr} {c0 : Addr} (h :
 ∃ (p0 : Option Addr), ld w.drew (padd (some a0) 0) = some (.pointer p0) ∧
 AndL (nnC p0) (AndL (nnC p0) (∃ (x1 x2 : Int), LoadL w.drew (padd p0 0) 0 [x1, x2] ∧
 ∃ (x3 x4 : Int), LoadL w.drew (some c0) 0 [x3, x4] ∧
 Cal 74 #[.agg #[x1, x2]] w.drew (fun e w5 => ∃ (x6 x7 : Int), e = Value.agg #[x6, x7] ∧
 LoadL w5 (some c0) 0 [x3, x4] ∧ LoadL w5 (padd (some a0) 0) 0 [.pointer p0] ∧ R (Value.bool ((x6 == x3) && (x7 == x4))) w5)))) : Cal 228 #[a0, c0] w R :=
 cq an0 Tryz.func228 h
theorem chunk_place_Place.vc (h :
 Aw w #[a0_0, a0_1] 145 fun w0 =>
 Aw w0 #[vzz, vzz] 139 fun w1 =>
 Sw w1 w0 #[a0_0, a0_1] fun w2 =>
 R (Value.agg #[a0_0, a0_1]) w2) : Cal 74 #[.agg #[a0_0, a0_1]] w R :=
 cq an0 Tryz.func74 h
theorem table_Table_room_1.vc {a0 : Addr} (h :
 ∃ (x0 : Int), ld w (padd (some a0) 2) = some (.int .i64 x0) ∧
 R (Value.bool (x0 == 0)) w) : Cal 229 #[a0] w R :=
 cq an0 Tryz.func229 h
theorem store_may.vc (h :
 Br (a0 ≥ 0)
 (R (Value.bool (decide (a0 ≤ 1099511627776))) w)
 (R false w)) : Cal 230 #[a0] w R :=
 cq an0 Tryz.func230 h
theorem code_Read.vc {a0 : Sl} (h :
 ∃ I0 : Nat → Sl → Int → Int → Sl → World → Prop,
 (∃ n1, I0 n1 a0 ((-1)) a1 ⟨none, 0, 0⟩ w) ∧
 ∀ (n1 : Nat) (us2 : Nat → Value) (s3 : Sl) (x4 x5 : Int) (s6 : Sl) (w7 : World), I0 n1 s3 x4 x5 s6 w7 →
 Br (decide ((((s3.n : Nat) : Int) : Int) > 0))
 (InB s3.a 0 s3.n ∧ ∃ (x9 : Int), ld w7 (padd s3.a ((0 : Int).toNat * 1)) = some (.int .u8 x9) ∧
 Aw w7 #[vzz, vzz] 322 fun w10 =>
 Sw w10 w7 #[vzz, (wqq x9)] fun w11 =>
 Cal 189 #[(wqq x9)] w11 (Rb fun b13 w12 => Kp w7 w11 w12 ∧
 Br (!b13)
 (R (Value.tuple #[.slice none 0 0, (2:Int)]) w12)
 (Br (((wqq x9) : Int) == x4)
 (R (Value.tuple #[.slice none 0 0, (2:Int)]) w12)
 ((0 : Int) ≤ ((s3.n : Nat) : Int) ∧ ((s3.n : Nat) : Int) ≤ ((s3.c : Nat) : Int) ∧ (0 : Int) ≤ ((s3.n : Nat) : Int) ∧ (((s3.n : Nat) : Int) : Int) ≤ ((s3.n : Nat) : Int) ∧ (0 : Int) ≤ 1 ∧ (1 : Int) ≤ ((s3.n : Nat) : Int) ∧ Cal 286 #[.slice (slBase s3.a ((1 : Int).toNat) ((((s3.n : Nat) : Int) : Int).toNat) 1) ((((s3.n : Nat) : Int) : Int).toNat - (1 : Int).toNat) ((((s3.n : Nat) : Int) : Int).toNat - (1 : Int).toNat)] w12 (fun e w14 => ∃ (x15 x16 x17 : Int), e = Value.tuple #[x15, x16, x17] ∧ Kp w7 w12 w14 ∧
 Br (x17 != 0)
 (R (Value.tuple #[.slice none 0 0, x17]) w14)
 (Br (x15 == 0)
 (R (Value.tuple #[.slice none 0 0, (2:Int)]) w14)
 (Br (x15 > x5)
 (R (Value.tuple #[.slice none 0 0, (2:Int)]) w14)
 (Sw w14 w7 #[x15, (wqq x9)] fun w18 =>
 (0 : Int) ≤ (wqq (1 + x16)) ∧ (wqq (1 + x16)) ≤ ((s3.n : Nat) : Int) ∧ Aw w18.drew #[x15, (wqq x9)] 322 fun w19 =>
 AppPre 16 2 w19 s6 1 [x15, (wqq x9)] ∧ ∀ (s20 : Sl) (w21 : World), AppRes 322 2 w19 s6 1 [x15, (wqq x9)] s20 w21 → Kp w7 w19 w21 ∧ w21.heap[w18.drew.heap.size]? = w19.heap[w18.drew.heap.size]? ∧
 Br (((wqq (x5 - x15)) : Int) == 0)
 (Br (decide (((wqq (x5 - x15)) : Int) > 0))
 (R (Value.tuple #[.slice none 0 0, (3:Int)]) w21)
 (Br (decide (((((s3.n - ((wqq (1 + x16)) : Int).toNat) : Nat) : Int) : Int) > 0))
 (R (Value.tuple #[.slice none 0 0, (2:Int)]) w21)
 (R (Value.tuple #[s20, vzz]) w21)))
 (∃ n8, n8 < n1 ∧ I0 n8 ⟨(slBase s3.a (((wqq (1 + x16)) : Int).toNat) (s3.c) 1), (s3.n - ((wqq (1 + x16)) : Int).toNat), (s3.c - ((wqq (1 + x16)) : Int).toNat)⟩ ((wqq x9)) ((wqq (x5 - x15))) s20 w21)))))))))
 (Br (x5 > 0)
 (R (Value.tuple #[.slice none 0 0, (3:Int)]) w7)
 (Br (decide ((((s3.n : Nat) : Int) : Int) > 0))
 (R (Value.tuple #[.slice none 0 0, (2:Int)]) w7)
 (R (Value.tuple #[s6, vzz]) w7)))) : Cal 232 #[a0, a1] w R :=
 cq ⟨[(3, ⟨[(0, .slice), (7, .int .i64), (1, .int .i64), (6, .slice)], [], []⟩)], [], []⟩ Tryz.func232 h
theorem world_World_View.vc {a0 : Addr} (h :
 ∃ (p0 : Option Addr), ld w (padd (some a0) 0) = some (.pointer p0) ∧
 R (Value.func (.func 113) #[p0] #[]) w) : Cal 58 #[a0] w R :=
 cq an0 Tryz.func58 h
theorem chunk_New.vc {a1 : Sl} (h :
 Aw w #[a0_0, a0_1] 139 fun w0 =>
 Cal 287 #[a1, (8192:Int)] w0 (Rb fun b2 w1 => Kp w w0 w1 ∧
 Br (!b2)
 (R (Value.tuple #[.pointer none, (1:Int)]) w1)
 ((Cal 288 #[a1] w1.drew (Rs fun s4 w3 => Kp w w1.drew w3 ∧
 Aw w3 #[a0_0, a0_1, s4] 148 fun w5 =>
 R (Value.tuple #[.pointer (pzq w3), vzz]) w5)) ∧ (Cal 288 #[a1] w1.drew (Rs fun s7 w6 => Kp w w1.drew w6 ∧
 LoadL w6 w 0 [a0_0, a0_1] ∧ Aw w6 #[a0_0, a0_1, s7] 148 fun w8 =>
 R (Value.tuple #[.pointer (pzq w6), vzz]) w8))))) : Cal 233 #[.agg #[a0_0, a0_1], a1] w R :=
 cq an0 Tryz.func233 h
theorem gen_Chunk.vc (h :
 Aw w #[a1_0, a1_1] 139 fun w0 =>
 Aw w0 #[.slice none 0 0] 37 fun w1 =>
 Cal 289 #[a0, .agg #[a1_0, a1_1]] w1 (Rv fun v3 w2 => K2 w w0 w1 w2 (
 ∃ (xs4 : List (LV)) (Rd5 F6 : Nat → Prop) (I7 : Nat → (Nat → Prop) → Sl → World → Prop) (X8 : Option Nat → (Nat → Prop) → Sl → World → Prop),
 (∀ x ∈ xs4, ∃ (x9 : Int), x = [.int .i64 x9]) ∧
 (∀ (n10 : Nat) (F11 : Nat → Prop) (s12 : Sl) (w13 w14 : World), I7 n10 F11 s12 w13 → Below w2 w13 w14 → (∀ i, F11 i → w14.heap[i]? = w13.heap[i]?) → I7 n10 F11 s12 w14) ∧
 (∀ (n15 : Option Nat) (F16 : Nat → Prop) (s17 : Sl) (w18 w19 : World), X8 n15 F16 s17 w18 → Below w2 w18 w19 → (∀ i, F16 i → w19.heap[i]? = w18.heap[i]?) → X8 n15 F16 s17 w19) ∧
 (∀ (n20 : Nat) (F21 : Nat → Prop) (s22 : Sl) (w23 : World), I7 n20 F21 s22 w23 → ∀ i, F21 i → i < w23.heap.size ∧ i ≠ w2.heap.size ∧ i ≠ w2.heap.size + 1) ∧
 (∀ (n24 : Option Nat) (F25 : Nat → Prop) (s26 : Sl) (w27 : World), X8 n24 F25 s26 w27 → ∀ i, F25 i → i < w27.heap.size ∧ i ≠ w2.heap.size ∧ i ≠ w2.heap.size + 1) ∧
 (∀ i, Rd5 i → i < w2.heap.size ∧ ¬ F6 i ∧ i ≠ w.heap.size ∧ i ≠ w0.heap.size ∧ True) ∧
 (∀ w28 : World, Begun w2 w2 w28 → Iter Tryz.prog (v3) w28 Rd5 xs4 ∧ EqL [a1_0, a1_1] ∧ I7 0 F6 ⟨none, 0, 0⟩ w28) ∧
 (∀ (n29 : Nat) (F30 : Nat → Prop) (us31 : Nat → Value) (s32 : Sl) (x33 : Int) (w34 : World), xs4[n29]? = some [.int .i64 x33] → I7 n29 F30 s32 w34 →
 Below w34 w34 w34 ∧ ∀ w35 : World, Rec (w2.heap.size + 1) w34 w35 → I7 n29 F30 s32 w35 →
 Aw w35 #[x33] 3 fun w36 =>
 AppPre 8 1 w36 s32 1 [x33] ∧ ∀ (s37 : Sl) (w38 : World), AppRes 3 1 w36 s32 1 [x33] s37 w38 → K3 w w0 w35 w36 w38 (
 Sw w38 w0 #[s37] fun w39 =>
 ∃ F40 : Nat → Prop, (EqL [a1_0, a1_1] ∧ I7 (n29 + 1) F40 s37 w39) ∧ Step (fun i => (F30 i ∨ i ∈ ([w.heap.size, w0.heap.size] : List Nat)) ∨ w34.heap.size ≤ i) (fun i => F40 i ∨ i ∈ ([w.heap.size, w0.heap.size] : List Nat)) w35 w39)) ∧
 (∀ (F41 : Nat → Prop) (us42 : Nat → Value) (s43 : Sl) (w44 : World), I7 xs4.length F41 s43 w44 → w44.heap[w2.heap.size]? = some (.deferred (some [])) →
 Cal 291 #[s43] w44 (Rs fun s46 w45 => K2 w w0 w44 w45 (
 Cal 290 #[s46] w45 (Rs fun s48 w47 => K2 w w0 w45 w47 (
 w47.heap[w2.heap.size]? = some (.deferred (some [])) ∧ ∀ w49 : World, Rec w2 w47 w49 →
 R s48 w49))))) ∧
 True))) : Cal 234 #[a0, .agg #[a1_0, a1_1]] w R :=
 cq ⟨[], [], [(4, ⟨[], [(1, [.slice])], []⟩, [.sc (.int .i64)])]⟩ Tryz.func234 h
theorem cell_Div.vc (h :
 Br (a1 < 1)
 (R (0:Int) w)
 (AndL (nzC a1) (AndL (nzC a1) (Br (decide (((Int.tmod a0 a1) : Int) < 0))
 (R ((wqq ((wqq (Int.tdiv a0 a1)) - 1))) w)
 (R ((wqq (Int.tdiv a0 a1))) w))))) : Cal 239 #[a0, a1] w R :=
 cq an0 Tryz.func239 h
theorem chunk_place_index.vc (h :
 Aw w #[a0_0, a0_1] 145 fun w0 =>
 Aw w0 #[a1_0, a1_1, a1_2] 23 fun w1 =>
 Cal 296 #[.agg #[a1_0, a1_1, a1_2]] w1 (fun e w2 => ∃ (x3 : Int) (b4 : Bool), e = Value.tuple #[x3, b4] ∧ K2 w w0 w1 w2 (
 Br b4
 (Cal 172 #[.agg #[a1_0, a1_1, a1_2]] w2.drew (Ra2 fun x6 x7 w5 => K2 w w0 w2.drew w5 (
 LoadL w5 w 0 [a0_0, a0_1] ∧ R (Value.tuple #[x3, .bool ((x6 == a0_0) && (x7 == a0_1))]) w5)))
 (R (Value.tuple #[x3, false]) w2.drew)))) : Cal 240 #[.agg #[a0_0, a0_1], .agg #[a1_0, a1_1, a1_2]] w R :=
 cq an0 Tryz.func240 h
theorem runs_At.vc {a0 : Sl} (h :
 ∃ I0 : Nat → Int → Int → World → Prop,
 (∃ n1, I0 n1 (0) a1 w) ∧
 ∀ (n1 : Nat) (us2 : Nat → Value) (x3 x4 : Int) (w5 : World), I0 n1 x3 x4 w5 →
 Br (decide (x3 < ((a0.n : Nat) : Int)))
 (InB a0.a x3 a0.n ∧ ∃ (x7 x8 : Int), LoadL w5 (padd a0.a ((x3 : Int).toNat * 2)) 0 [x7, x8] ∧
 Aw w5 #[vzz, vzz] 322 fun w9 =>
 Sw w9 w5 #[x7, x8] fun w10 =>
 Br (x4 ≥ 0)
 (Br (x4 < x7)
 (R x8 w10)
 (∃ n6, n6 < n1 ∧ I0 n6 ((wqq (x3 + 1))) ((wqq (x4 - x7))) w10))
 (∃ n6, n6 < n1 ∧ I0 n6 ((wqq (x3 + 1))) ((wqq (x4 - x7))) w10))
 (R (Value.int .i64 (-1)) w5)) : Cal 241 #[a0, a1] w R :=
 cq ⟨[(2, ⟨[(9, .int .i64), (1, .int .i64)], [], []⟩)], [], []⟩ Tryz.func241 h
theorem block_Wet.vc (h :
 Br (a0 ≥ 8)
 (R (Value.bool (decide (a0 < 16))) w)
 (R false w)) : Cal 262 #[a0] w R :=
 cq an0 Tryz.func262 h
theorem ref01_Div.vc (h :
 AndL (nzC a1) (Br (decide (((wqq ((wqq (Int.tdiv a0 a1)) * a1)) : Int) > a0))
 (R ((wqq ((wqq (Int.tdiv a0 a1)) - 1))) w)
 (R ((wqq (Int.tdiv a0 a1))) w))) : Cal 171 #[a0, a1] w R :=
 cq an0 Tryz.func171 h
theorem ref04_May.vc (h :
 Br (a0 ≥ 0)
 (Br (a0 ≤ 15)
 (Br (a0 != 6)
 (R (Value.bool (a0 != 7)) w)
 (R false w))
 (R false w))
 (R false w)) : Cal 56 #[a0] w R :=
 cq an0 Tryz.func56 h
theorem cell_Mod.vc (h :
 Br (a1 < 1)
 (R (0:Int) w)
 (AndL (nzC a1) (Br (decide (((Int.tmod a0 a1) : Int) < 0))
 (R ((wqq ((Int.tmod a0 a1) + a1))) w)
 (R (Value.int .i64 (Int.tmod a0 a1)) w)))) : Cal 349 #[a0, a1] w R :=
 cq an0 Tryz.func349 h
theorem block_Name.vc (h :
 Br (a0 < 0)
 (R (Value.string (ByteArray.mk #[])) w)
 (Br (a0 ≥ 16)
 (R (Value.string (ByteArray.mk #[])) w)
 (Cal 238 #[] w (fun e w0 => ∃ (t1 t2 t3 t4 t5 t6 t7 t8 t9 t10 t11 t12 t13 t14 t15 t16 : ByteArray), e = Value.agg #[.string t1, .string t2, .string t3, .string t4, .string t5, .string t6, .string t7, .string t8, .string t9, .string t10, .string t11, .string t12, .string t13, .string t14, .string t15, .string t16] ∧
 ((0 : Int) ≤ a0 ∧ a0 < ((16 : Nat) : Int)) ∧ ∃ (t17 : ByteArray), ([.string t1, .string t2, .string t3, .string t4, .string t5, .string t6, .string t7, .string t8, .string t9, .string t10, .string t11, .string t12, .string t13, .string t14, .string t15, .string t16] : LV)[(a0 : Int).toNat * 1]? = some (.string t17) ∧
 R (Value.string t17) w0)))) : Cal 170 #[a0] w R :=
 cq an0 Tryz.func170 h
theorem runs_Set.vc {a0 : Sl} (h :
 Br (a1 < 0)
 (Cal 288 #[a0] w (fun e w0 => ∃ (s1 : Sl), e = s1 ∧
 R s1 w0))
 (Cal 347 #[a0] w (fun e w2 => ∃ (x3 : Int), e = x3 ∧
 Br (a1 ≥ x3)
 (Cal 288 #[a0] w2 (fun e w4 => ∃ (s5 : Sl), e = s5 ∧
 R s5 w4))
 (Cal 389 #[a0, a1, (wqq (a1 + 1)), a2] w2 (fun e w6 => ∃ (s7 : Sl), e = s7 ∧
 R s7 w6))))) : Cal 376 #[a0, a1, a2] w R :=
 cq an0 Tryz.func376 h
theorem chunk_Chunk_Bytes.vc {a0 : Addr} (h :
 ∃ (s0 : Sl), ld w (padd (some a0) 2) = some (.slice s0.a s0.n s0.c) ∧
 Cal 295 #[s0] w (fun e w1 => ∃ (s2 : Sl) (x3 : Int), e = Value.tuple #[s2, x3] ∧
 R s2 w1)) : Cal 236 #[a0] w R :=
 cq an0 Tryz.func236 h
theorem disk_New.vc (h :
 ∀ w0, w0 = w.alloc (.map #[] 0) →
 Aw w0 #[.int .i64 (if 1048576 < (if 0 > a0 then 0 else a0) then 1048576 else (if 0 > a0 then 0 else a0)), vzz, vzz, .map (some w.heap.size), .slice none 0 0] 237 fun w1 =>
 R (Value.pointer (pzq w0)) w1) : Cal 297 #[a0] w R :=
 cq an0 Tryz.func297 h
theorem disk_Disk_Get.vc {a0 : Addr} (h :
 Cal 333 #[a0] w (fun e w0 => ∃ (m1 : Option Nat), e = Value.map m1 ∧
 ∃ (G2 : Value → Prop) (kvs3 : List (Value × Value)), KeyOk Tryz.prog 3 G2 ∧ MapIs G2 w0 m1 kvs3 ∧ G2 a1 ∧ ∃ (s4 : Sl), ∃ b5 : Bool, Look kvs3 a1 (.slice none 0 0) s4 b5 ∧
 Cal 334 #[s4] w0 (fun e w6 => ∃ (s7 : Sl), e = s7 ∧
 R (Value.tuple #[s7, b5]) w6))) : Cal 284 #[a0, a1] w R :=
 cq an0 Tryz.func284 h
theorem store_Read.vc {a0 : Sl} (h :
 Cal 335 #[a0] w (fun e w0 => ∃ (s1 : Sl) (x2 : Int), e = Value.tuple #[s1, x2] ∧
 Br (x2 != 0)
 (R (Value.tuple #[vzz, .slice none 0 0, x2]) w0)
 (Br (decide ((((s1.n : Nat) : Int) : Int) < 7))
 (R (Value.tuple #[vzz, .slice none 0 0, (3:Int)]) w0)
 ((0 : Int) ≤ 4 ∧ 4 ≤ ((s1.c : Nat) : Int) ∧ (0 : Int) ≤ 7 ∧ 7 ≤ ((s1.c : Nat) : Int) ∧ (0 : Int) ≤ 4 ∧ (4 : Int) ≤ 7 ∧ (0 : Int) ≤ 7 ∧ 7 ≤ ((s1.n : Nat) : Int) ∧ Cal 336 #[.slice (slBase s1.a (0) (s1.c) 1) ((4 : Int).toNat - 0) (s1.c - 0)] w0.drew (fun e w3 => ∃ (x4 : Int), e = x4 ∧
 Cal 336 #[.slice (slBase s1.a ((4 : Int).toNat) (s1.c) 1) ((7 : Int).toNat - (4 : Int).toNat) (s1.c - (4 : Int).toNat)] w3 (fun e w5 => ∃ (x6 : Int), e = x6 ∧
 Br (x4 < 1)
 (R (Value.tuple #[vzz, .slice none 0 0, (2:Int)]) w5)
 (Br (x4 > 1073741824)
 (R (Value.tuple #[vzz, .slice none 0 0, (2:Int)]) w5)
 (Br (x6 > 65536)
 (R (Value.tuple #[vzz, .slice none 0 0, (2:Int)]) w5)
 (Br (x6 != (((s1.n - (7 : Int).toNat) : Nat) : Int))
 (R (Value.tuple #[vzz, .slice none 0 0, (2:Int)]) w5)
 (R (Value.tuple #[x4, .slice (slBase s1.a ((7 : Int).toNat) (s1.c) 1) (s1.n - (7 : Int).toNat) (s1.c - (7 : Int).toNat), vzz]) w5)))))))))) : Cal 285 #[a0] w R :=
 cq an0 Tryz.func285 h
theorem code_Digits.vc {a0 : Sl} (h :
 (0 : Int) ≤ (if 3 < ((a0.n : Nat) : Int) then 3 else ((a0.n : Nat) : Int)) ∧ (if 3 < ((a0.n : Nat) : Int) then 3 else ((a0.n : Nat) : Int)) ≤ ((a0.c : Nat) : Int) ∧ ∃ I0 : Nat → Int → Int → World → Prop,
 (∃ n1, I0 n1 (0) (0) w) ∧
 ∀ (n1 : Nat) (us2 : Nat → Value) (x3 x4 : Int) (w5 : World), I0 n1 x3 x4 w5 →
 Br (decide (x3 < (((((if 3 < ((a0.n : Nat) : Int) then 3 else ((a0.n : Nat) : Int)) : Int).toNat - 0) : Nat) : Int)))
 (InB (slBase a0.a (0) (a0.c) 1) x3 (((if 3 < ((a0.n : Nat) : Int) then 3 else ((a0.n : Nat) : Int)) : Int).toNat - 0) ∧ ∃ (x7 : Int), ld w5 (padd (slBase a0.a (0) (a0.c) 1) ((x3 : Int).toNat * 1)) = some (.int .u8 x7) ∧
 AndL (ngC (wqq (7 * x3))) (Br (x7 ≥ 128)
 (∃ n6, n6 < n1 ∧ I0 n6 ((wqq (x3 + 1))) ((bOr .i64 x4 (wqq ((wqq (bAndNot .u8 x7 128)) * 2 ^ (min ((wqq (7 * x3)) : Int).toNat 64))))) w5)
 (Br (x7 == 0)
 (Br (x3 > 0)
 (R (Value.tuple #[vzz, vzz, (2:Int)]) w5)
 (Br (decide (((bOr .i64 x4 (wqq ((wqq (bAndNot .u8 x7 128)) * 2 ^ (min ((wqq (7 * x3)) : Int).toNat 64)))) : Int) > 1048576))
 (R (Value.tuple #[vzz, vzz, (2:Int)]) w5)
 (R (Value.tuple #[.int .i64 (bOr .i64 x4 (wqq ((wqq (bAndNot .u8 x7 128)) * 2 ^ (min ((wqq (7 * x3)) : Int).toNat 64)))), (wqq (x3 + 1)), vzz]) w5)))
 (Br (decide (((bOr .i64 x4 (wqq ((wqq (bAndNot .u8 x7 128)) * 2 ^ (min ((wqq (7 * x3)) : Int).toNat 64)))) : Int) > 1048576))
 (R (Value.tuple #[vzz, vzz, (2:Int)]) w5)
 (R (Value.tuple #[.int .i64 (bOr .i64 x4 (wqq ((wqq (bAndNot .u8 x7 128)) * 2 ^ (min ((wqq (7 * x3)) : Int).toNat 64)))), (wqq (x3 + 1)), vzz]) w5)))))
 (Br (decide ((((a0.n : Nat) : Int) : Int) < 3))
 (R (Value.tuple #[vzz, vzz, (3:Int)]) w5)
 (R (Value.tuple #[vzz, vzz, (2:Int)]) w5))) : Cal 286 #[a0] w R :=
 cq ⟨[(3, ⟨[(14, .int .i64), (5, .int .i64)], [], []⟩)], [], []⟩ Tryz.func286 h
theorem runs_May.vc {a0 : Sl} (h :
 ∃ I0 : Nat → Int → Int → World → Prop,
 (∃ n1, I0 n1 (0) a1 w) ∧
 ∀ (n1 : Nat) (us2 : Nat → Value) (x3 x4 : Int) (w5 : World), I0 n1 x3 x4 w5 →
 Br (decide (x3 < ((a0.n : Nat) : Int)))
 (InB a0.a x3 a0.n ∧ ∃ (x7 x8 : Int), LoadL w5 (padd a0.a ((x3 : Int).toNat * 2)) 0 [x7, x8] ∧
 Aw w5 #[vzz, vzz] 322 fun w9 =>
 Sw w9 w5 #[x7, x8] fun w10 =>
 Br (x7 < 1)
 (R false w10.drew)
 (Br (x7 > x4)
 (R false w10.drew)
 (Cal 189 #[x8] w10.drew (Rb fun b12 w11 => Kp w5 w10.drew w11 ∧
 LoadL w11 w5 0 [x7] ∧ LoadL w11 w5 0 [x7] ∧ Br (!b12)
 (R false w11)
 (Br (x3 > 0)
 (InB a0.a (wqq (x3 - 1)) a0.n ∧ AndL (nnC (padd a0.a (((wqq (x3 - 1)) : Int).toNat * 2))) (∃ (x13 : Int), ld w11 (padd (padd a0.a (((wqq (x3 - 1)) : Int).toNat * 2)) 1) = some (.int .i64 x13) ∧
 Br (x13 == x8)
 (R false w11)
 (∃ n6, n6 < n1 ∧ I0 n6 ((wqq (x3 + 1))) ((wqq (x4 - x7))) w11)))
 (∃ n6, n6 < n1 ∧ I0 n6 ((wqq (x3 + 1))) ((wqq (x4 - x7))) w11))))))
 (Br (a1 > 0)
 (R (Value.bool (x4 == 0)) w5)
 (R false w5))) : Cal 287 #[a0, a1] w R :=
 cq ⟨[(3, ⟨[(11, .int .i64), (5, .int .i64)], [], []⟩)], [], []⟩ Tryz.func287 h
theorem slices_Clone_Run.vc {a0 : Sl} (h :
 Br (a0.a).isNone
 (R (Value.slice none 0 0) w)
 (Aw w #[] 322 fun w0 =>
 ∃ l1 : LV, Rd w0 a0.a l1 ∧ AppPre 16 2 w0 ⟨(pzq w), 0, 0⟩ a0.n l1 ∧ ∀ (s2 : Sl) (w3 : World), AppRes 322 2 w0 ⟨(pzq w), 0, 0⟩ a0.n l1 s2 w3 → Kp w w0 w3 ∧
 R s2 w3)) : Cal 288 #[a0] w R :=
 cq an0 Tryz.func288 h
theorem gen_Cells.vc (h :
 Aw w #[a0] 3 fun w0 =>
 Aw w0 #[a1_0, a1_1] 139 fun w1 =>
 R (Value.func (.func 337) #[] #[.pointer (pzq w0), w]) w1) : Cal 289 #[a0, .agg #[a1_0, a1_1]] w R :=
 cq an0 Tryz.func289 h
theorem runs_Of.vc {a0 : Sl} (h :
 ∃ I0 : Nat → Int → Sl → World → Prop,
 (∃ n1, I0 n1 (0) ⟨none, 0, 0⟩ w) ∧
 ∀ (n1 : Nat) (us2 : Nat → Value) (x3 : Int) (s4 : Sl) (w5 : World), I0 n1 x3 s4 w5 →
 Br (decide (x3 < ((a0.n : Nat) : Int)))
 (InB a0.a x3 a0.n ∧ ∃ (x7 : Int), ld w5 (padd a0.a ((x3 : Int).toNat * 1)) = some (.int .i64 x7) ∧
 Cal 341 #[s4, .agg #[(1:Int), x7]] w5 (fun e w8 => ∃ (s9 : Sl), e = s9 ∧
 ∃ n6, n6 < n1 ∧ I0 n6 ((wqq (x3 + 1))) s9 w8))
 (R s4 w5)) : Cal 290 #[a0] w R :=
 cq ⟨[(3, ⟨[(8, .int .i64), (3, .slice)], [], []⟩)], [], []⟩ Tryz.func290 h
theorem slices_Clip_int.vc {a0 : Sl} (h :
 (0 : Int) ≤ ((a0.n : Nat) : Int) ∧ ((a0.n : Nat) : Int) ≤ ((a0.c : Nat) : Int) ∧ (0 : Int) ≤ ((a0.n : Nat) : Int) ∧ (((a0.n : Nat) : Int) : Int) ≤ ((a0.n : Nat) : Int) ∧ R (Value.slice (slBase a0.a (0) ((((a0.n : Nat) : Int) : Int).toNat) 1) ((((a0.n : Nat) : Int) : Int).toNat - 0) ((((a0.n : Nat) : Int) : Int).toNat - 0)) w) : Cal 291 #[a0] w R :=
 cq an0 Tryz.func291 h
theorem block_names.vc (h :
 ∀ w0, w0 = w.alloc (.cells #[.string (ByteArray.mk #[]), .string (ByteArray.mk #[]), .string (ByteArray.mk #[]), .string (ByteArray.mk #[]), .string (ByteArray.mk #[]), .string (ByteArray.mk #[]), .string (ByteArray.mk #[]), .string (ByteArray.mk #[]), .string (ByteArray.mk #[]), .string (ByteArray.mk #[]), .string (ByteArray.mk #[]), .string (ByteArray.mk #[]), .string (ByteArray.mk #[]), .string (ByteArray.mk #[]), .string (ByteArray.mk #[]), .string (ByteArray.mk #[])] 283) →
 ∀ w1, w1 = w0.alloc (.cells #[.string (ByteArray.mk #[]), .string (ByteArray.mk #[]), .string (ByteArray.mk #[]), .string (ByteArray.mk #[]), .string (ByteArray.mk #[]), .string (ByteArray.mk #[]), .string (ByteArray.mk #[]), .string (ByteArray.mk #[]), .string (ByteArray.mk #[]), .string (ByteArray.mk #[]), .string (ByteArray.mk #[]), .string (ByteArray.mk #[]), .string (ByteArray.mk #[]), .string (ByteArray.mk #[]), .string (ByteArray.mk #[]), .string (ByteArray.mk #[])] 283) →
 Wt w1 ⟨w0, 0, none⟩ 16 ∧ (∀ w2, w2 = setP w1 (pzq w0) [.string (ByteArray.mk #[97, 105, 114]), .string (ByteArray.mk #[115, 116, 111, 110, 101]), .string (ByteArray.mk #[100, 105, 114, 116]), .string (ByteArray.mk #[115, 97, 110, 100]), .string (ByteArray.mk #[108, 97, 100, 100, 101, 114]), .string (ByteArray.mk #[103, 108, 97, 115, 115]), .string (ByteArray.mk #[]), .string (ByteArray.mk #[]), .string (ByteArray.mk #[]), .string (ByteArray.mk #[]), .string (ByteArray.mk #[]), .string (ByteArray.mk #[]), .string (ByteArray.mk #[]), .string (ByteArray.mk #[]), .string (ByteArray.mk #[]), .string (ByteArray.mk #[])] →
 ∃ I3 : Nat → Int → World → Prop,
 (∃ n4, I3 n4 (0) w2) ∧
 ∀ (n4 : Nat) (us5 : Nat → Value) (x6 : Int) (w7 : World), I3 n4 x6 w7 →
 Br (x6 < 8)
 (Cal 224 #[x6] w7 (fun e w9 => ∃ (t10 : ByteArray), e = Value.string t10 ∧
 ((((ByteArray.mk #[119, 97, 116, 101, 114])).size + (t10).size : Nat) : Int) ≤ IntKind.i64.max ∧ (0 : Int) ≤ (wqq (8 + x6)) ∧ ((wqq (8 + x6)) : Int) < ((16 : Nat) : Int) ∧ (true = true ∧ Wr w9 (padd (pzq w0) (((wqq (8 + x6)) : Int).toNat * 1)) 1) ∧ (∀ w11, w11 = setP w9 (padd (pzq w0) (((wqq (8 + x6)) : Int).toNat * 1)) [.string ((ByteArray.mk #[119, 97, 116, 101, 114]) ++ t10)] →
 ∃ n8, n8 < n4 ∧ I3 n8 ((wqq (x6 + 1))) w11)))
 (∃ (t12 t13 t14 t15 t16 t17 t18 t19 t20 t21 t22 t23 t24 t25 t26 t27 : ByteArray), LoadL w7 (pzq w0) 0 [.string t12, .string t13, .string t14, .string t15, .string t16, .string t17, .string t18, .string t19, .string t20, .string t21, .string t22, .string t23, .string t24, .string t25, .string t26, .string t27] ∧
 Wt w7 ⟨w, 0, none⟩ 16 ∧ (∀ w28, w28 = setP w7 w [.string t12, .string t13, .string t14, .string t15, .string t16, .string t17, .string t18, .string t19, .string t20, .string t21, .string t22, .string t23, .string t24, .string t25, .string t26, .string t27] →
 ∃ (t29 t30 t31 t32 t33 t34 t35 t36 t37 t38 t39 t40 t41 t42 t43 t44 : ByteArray), LoadL w28 w 0 [.string t29, .string t30, .string t31, .string t32, .string t33, .string t34, .string t35, .string t36, .string t37, .string t38, .string t39, .string t40, .string t41, .string t42, .string t43, .string t44] ∧
 R (Value.agg #[.string t29, .string t30, .string t31, .string t32, .string t33, .string t34, .string t35, .string t36, .string t37, .string t38, .string t39, .string t40, .string t41, .string t42, .string t43, .string t44]) w28)))) : Cal 238 #[] w R :=
 cq ⟨[(3, ⟨[(4, .int .i64)], [], []⟩)], [], []⟩ Tryz.func238 h
theorem runs_Len.vc {a0 : Sl} (h :
 ∃ I0 : Nat → Int → Int → World → Prop,
 (∃ n1, I0 n1 (0) (0) w) ∧
 ∀ (n1 : Nat) (us2 : Nat → Value) (x3 x4 : Int) (w5 : World), I0 n1 x3 x4 w5 →
 Br (decide (x3 < ((a0.n : Nat) : Int)))
 (InB a0.a x3 a0.n ∧ ∃ (x7 x8 : Int), LoadL w5 (padd a0.a ((x3 : Int).toNat * 2)) 0 [x7, x8] ∧
 Aw w5 #[vzz, vzz] 322 fun w9 =>
 Sw w9 w5 #[x7, x8] fun w10 =>
 ∃ n6, n6 < n1 ∧ I0 n6 ((wqq (x3 + 1))) ((wqq (x4 + x7))) w10)
 (R x4 w5)) : Cal 347 #[a0] w R :=
 cq ⟨[(3, ⟨[(8, .int .i64), (3, .int .i64)], [], []⟩)], [], []⟩ Tryz.func347 h
theorem runs_Fill.vc {a0 : Sl} (h :
 Cal 347 #[a0] w (fun e w0 => ∃ (x1 : Int), e = x1 ∧
 Cal 189 #[a3] w0 (fun e w2 => ∃ (b3 : Bool), e = b3 ∧
 Br (!b3)
 (Cal 288 #[a0] w2 (fun e w4 => ∃ (s5 : Sl), e = s5 ∧
 R s5 w4))
 (Br (decide (((if x1 < (if 0 > a1 then 0 else a1) then x1 else (if 0 > a1 then 0 else a1)) : Int) ≥ (if x1 < (if 0 > a2 then 0 else a2) then x1 else (if 0 > a2 then 0 else a2))))
 (Cal 288 #[a0] w2 (fun e w6 => ∃ (s7 : Sl), e = s7 ∧
 R s7 w6))
 (Cal 396 #[a0, vzz, .int .i64 (if x1 < (if 0 > a1 then 0 else a1) then x1 else (if 0 > a1 then 0 else a1))] w2 (fun e w8 => ∃ (s9 : Sl), e = s9 ∧
 Cal 397 #[(wqq ((if x1 < (if 0 > a2 then 0 else a2) then x1 else (if 0 > a2 then 0 else a2)) - (if x1 < (if 0 > a1 then 0 else a1) then x1 else (if 0 > a1 then 0 else a1)))), a3] w8 (fun e w10 => ∃ (s11 : Sl), e = s11 ∧
 Cal 396 #[a0, .int .i64 (if x1 < (if 0 > a2 then 0 else a2) then x1 else (if 0 > a2 then 0 else a2)), x1] w10 (fun e w12 => ∃ (s13 : Sl), e = s13 ∧
 Aw w12 #[s9, s11, s13] 146 fun w14 =>
 Cal 395 #[.slice (pzq w12) 3 3] w14 (fun e w15 => ∃ (s16 : Sl), e = s16 ∧
 R s16 w15))))))))) : Cal 389 #[a0, a1, a2, a3] w R :=
 cq an0 Tryz.func389 h
theorem code_Write.vc {a0 : Sl} (h :
 ∃ I0 : Nat → Int → Int → World → Prop,
 (∃ n1, I0 n1 (0) (1048576) w) ∧
 ∀ (n1 : Nat) (us2 : Nat → Value) (x3 x4 : Int) (w5 : World), I0 n1 x3 x4 w5 →
 Br (decide (x3 < ((a0.n : Nat) : Int)))
 (InB a0.a x3 a0.n ∧ ∃ (x7 x8 : Int), LoadL w5 (padd a0.a ((x3 : Int).toNat * 2)) 0 [x7, x8] ∧
 Aw w5 #[vzz, vzz] 322 fun w9 =>
 Sw w9 w5 #[x7, x8] fun w10 =>
 Br (x7 < 1)
 (R (Value.tuple #[.slice none 0 0, (1:Int)]) w10)
 (Br (decide (((wqq (x4 - x7)) : Int) < 0))
 (R (Value.tuple #[.slice none 0 0, (1:Int)]) w10)
 (∃ n6, n6 < n1 ∧ I0 n6 ((wqq (x3 + 1))) ((wqq (x4 - x7))) w10)))
 (Cal 347 #[a0] w5 (fun e w11 => ∃ (x12 : Int), e = x12 ∧
 Cal 287 #[a0, x12] w11 (fun e w13 => ∃ (b14 : Bool), e = b14 ∧
 Br (!b14)
 (R (Value.tuple #[.slice none 0 0, (1:Int)]) w13)
 (∃ I15 : Nat → Int → Sl → World → Prop,
 (∃ n16, I15 n16 (0) ⟨none, 0, 0⟩ w13) ∧
 ∀ (n16 : Nat) (us17 : Nat → Value) (x18 : Int) (s19 : Sl) (w20 : World), I15 n16 x18 s19 w20 →
 Br (decide (x18 < ((a0.n : Nat) : Int)))
 (InB a0.a x18 a0.n ∧ ∃ (x22 x23 : Int), LoadL w20 (padd a0.a ((x18 : Int).toNat * 2)) 0 [x22, x23] ∧
 Aw w20 #[vzz, vzz] 322 fun w24 =>
 Sw w24 w20 #[x22, x23] fun w25 =>
 Aw w25.drew #[.int .u8 (w8q x23)] 5 fun w26 =>
 AppPre 1 1 w26 s19 1 [.int .u8 (w8q x23)] ∧ ∀ (s27 : Sl) (w28 : World), AppRes 5 1 w26 s19 1 [.int .u8 (w8q x23)] s27 w28 → w28.heap[w20.heap.size]? = w26.heap[w20.heap.size]? ∧ w28.heap[w25.drew.heap.size]? = w26.heap[w25.drew.heap.size]? ∧
 LoadL w28 w20 0 [x22] ∧ LoadL w28 (pnq w20 1) 0 [x23] ∧ Cal 348 #[x22] w28 (Rs fun s30 w29 => w29.heap[w20.heap.size]? = w28.heap[w20.heap.size]? ∧ w29.heap[w25.drew.heap.size]? = w28.heap[w25.drew.heap.size]? ∧
 LoadL w29 (pnq w20 1) 0 [x23] ∧ ∃ l31 : LV, Rd w29 s30.a l31 ∧ AppPre 1 1 w29 s27 s30.n l31 ∧ ∀ (s32 : Sl) (w33 : World), AppRes 5 1 w29 s27 s30.n l31 s32 w33 → w33.heap[w20.heap.size]? = w29.heap[w20.heap.size]? ∧ w33.heap[w25.drew.heap.size]? = w29.heap[w25.drew.heap.size]? ∧
 LoadL w33 (pnq w20 1) 0 [x23] ∧ ∃ n21, n21 < n16 ∧ I15 n21 ((wqq (x18 + 1))) s32 w33))
 (R (Value.tuple #[s19, vzz]) w20)))))) : Cal 295 #[a0] w R :=
 cq ⟨[(13, ⟨[(35, .int .i64), (7, .slice)], [], []⟩), (3, ⟨[(12, .int .i64), (4, .int .i64)], [], []⟩)], [], []⟩ Tryz.func295 h
theorem ref01_Around.vc (h :
 Br (a0 < 0)
 (AndL (nzC a1) (R (Value.int .i64 (Int.tmod (wqq (0 - (wqq (a0 + 1)))) a1)) w))
 (AndL (nzC a1) (R (Value.int .i64 (Int.tmod a0 a1)) w))) : Cal 12 #[a0, a1] w R :=
 cq an0 Tryz.func12 h
theorem disk_Disk_now.vc {a0 : Addr} (h :
 ∃ (m0 : Option Nat), ld w (padd (some a0) 3) = some (.map m0) ∧
 Cal 369 #[.map m0] w (fun e w1 => ∃ (m2 : Option Nat), e = Value.map m2 ∧
 ∃ (s3 : Sl), ld w1 (padd (some a0) 4) = some (.slice s3.a s3.n s3.c) ∧
 ∃ I4 : Nat → Int → World → Prop,
 (∃ n5, I4 n5 (0) w1) ∧
 ∀ (n5 : Nat) (us6 : Nat → Value) (x7 : Int) (w8 : World), I4 n5 x7 w8 →
 Br (decide (x7 < ((s3.n : Nat) : Int)))
 (InB s3.a x7 s3.n ∧ ∃ (x10 : Int) (s11 : Sl), LoadL w8 (padd s3.a ((x7 : Int).toNat * 2)) 0 [x10, s11] ∧
 Aw w8 #[vzz, .slice none 0 0] 337 fun w12 =>
 Sw w12 w8 #[x10, s11] fun w13 =>
 ∃ (G14 : Value → Prop) (kvs15 : List (Value × Value)), KeyOk Tryz.prog 3 G14 ∧ (m2 : Option Nat).isSome = true ∧ MapIs G14 w13 m2 kvs15 ∧ G14 x10 ∧ ∀ w16 : World, Rec ((m2 : Option Nat).getD 0) w13 w16 → MapIs G14 w16 m2 (insL kvs15 x10 s11) →
 ∃ n9, n9 < n5 ∧ I4 n9 ((wqq (x7 + 1))) w16)
 (R (Value.map m2) w8))) : Cal 333 #[a0] w R :=
 cq ⟨[(3, ⟨[(16, .int .i64)], [], []⟩)], [], []⟩ Tryz.func333 h
theorem slices_Clone_byte.vc {a0 : Sl} (h :
 Br (a0.a).isNone
 (R (Value.slice none 0 0) w)
 (Aw w #[] 5 fun w0 =>
 ∃ l1 : LV, Rd w0 a0.a l1 ∧ AppPre 1 1 w0 ⟨(pzq w), 0, 0⟩ a0.n l1 ∧ ∀ (s2 : Sl) (w3 : World), AppRes 5 1 w0 ⟨(pzq w), 0, 0⟩ a0.n l1 s2 w3 → Kp w w0 w3 ∧
 R s2 w3)) : Cal 334 #[a0] w R :=
 cq an0 Tryz.func334 h
theorem crc_Take.vc {a0 : Sl} (h :
 Br (decide ((((a0.n : Nat) : Int) : Int) < 2))
 (R (Value.tuple #[.slice none 0 0, (3:Int)]) w)
 (Cal 370 #[a0] w (fun e w0 => ∃ (b1 : Bool), e = b1 ∧
 Br (!b1)
 (R (Value.tuple #[.slice none 0 0, (4:Int)]) w0)
 ((0 : Int) ≤ (wqq (((a0.n : Nat) : Int) - 2)) ∧ (wqq (((a0.n : Nat) : Int) - 2)) ≤ ((a0.c : Nat) : Int) ∧ Cal 334 #[.slice (slBase a0.a (0) (a0.c) 1) (((wqq (((a0.n : Nat) : Int) - 2)) : Int).toNat - 0) (a0.c - 0)] w0 (fun e w2 => ∃ (s3 : Sl), e = s3 ∧
 R (Value.tuple #[s3, vzz]) w2))))) : Cal 335 #[a0] w R :=
 cq an0 Tryz.func335 h
theorem gen_Cells_1.vc {a0 : Value} {c0 : Addr} {c1 : Addr} (h :
 Aw w #[.int .i64 0, .int .i64 0, .int .i64 0, .int .i64 0, .int .i64 0, .int .i64 0, .int .i64 0, .int .i64 0, .int .i64 0, .int .i64 0, .int .i64 0, .int .i64 0, .int .i64 0, .int .i64 0, .int .i64 0, .int .i64 0, .int .i64 0, .int .i64 0, .int .i64 0, .int .i64 0, .int .i64 0, .int .i64 0, .int .i64 0, .int .i64 0, .int .i64 0, .int .i64 0, .int .i64 0, .int .i64 0, .int .i64 0, .int .i64 0, .int .i64 0, .int .i64 0, .int .i64 0, .int .i64 0, .int .i64 0, .int .i64 0, .int .i64 0, .int .i64 0, .int .i64 0, .int .i64 0, .int .i64 0, .int .i64 0, .int .i64 0, .int .i64 0, .int .i64 0, .int .i64 0, .int .i64 0, .int .i64 0, .int .i64 0, .int .i64 0, .int .i64 0, .int .i64 0, .int .i64 0, .int .i64 0, .int .i64 0, .int .i64 0, .int .i64 0, .int .i64 0, .int .i64 0, .int .i64 0, .int .i64 0, .int .i64 0, .int .i64 0, .int .i64 0, .int .i64 0, .int .i64 0, .int .i64 0, .int .i64 0, .int .i64 0, .int .i64 0, .int .i64 0, .int .i64 0, .int .i64 0, .int .i64 0, .int .i64 0, .int .i64 0, .int .i64 0, .int .i64 0, .int .i64 0, .int .i64 0, .int .i64 0, .int .i64 0, .int .i64 0, .int .i64 0, .int .i64 0, .int .i64 0, .int .i64 0, .int .i64 0, .int .i64 0, .int .i64 0, .int .i64 0, .int .i64 0, .int .i64 0, .int .i64 0, .int .i64 0, .int .i64 0, .int .i64 0, .int .i64 0, .int .i64 0, .int .i64 0, .int .i64 0, .int .i64 0, .int .i64 0, .int .i64 0, .int .i64 0, .int .i64 0, .int .i64 0, .int .i64 0, .int .i64 0, .int .i64 0, .int .i64 0, .int .i64 0, .int .i64 0, .int .i64 0, .int .i64 0, .int .i64 0, .int .i64 0, .int .i64 0, .int .i64 0, .int .i64 0, .int .i64 0, .int .i64 0, .int .i64 0, .int .i64 0, .int .i64 0, .int .i64 0, .int .i64 0, .int .i64 0, .int .i64 0, .int .i64 0, .int .i64 0, .int .i64 0, .int .i64 0, .int .i64 0, .int .i64 0, .int .i64 0, .int .i64 0, .int .i64 0, .int .i64 0, .int .i64 0, .int .i64 0, .int .i64 0, .int .i64 0, .int .i64 0, .int .i64 0, .int .i64 0, .int .i64 0, .int .i64 0, .int .i64 0, .int .i64 0, .int .i64 0, .int .i64 0, .int .i64 0, .int .i64 0, .int .i64 0, .int .i64 0, .int .i64 0, .int .i64 0, .int .i64 0, .int .i64 0, .int .i64 0, .int .i64 0, .int .i64 0, .int .i64 0, .int .i64 0, .int .i64 0, .int .i64 0, .int .i64 0, .int .i64 0, .int .i64 0, .int .i64 0, .int .i64 0, .int .i64 0, .int .i64 0, .int .i64 0, .int .i64 0, .int .i64 0, .int .i64 0, .int .i64 0, .int .i64 0, .int .i64 0, .int .i64 0, .int .i64 0, .int .i64 0, .int .i64 0, .int .i64 0, .int .i64 0, .int .i64 0, .int .i64 0, .int .i64 0, .int .i64 0, .int .i64 0, .int .i64 0, .int .i64 0, .int .i64 0, .int .i64 0, .int .i64 0, .int .i64 0, .int .i64 0, .int .i64 0, .int .i64 0, .int .i64 0, .int .i64 0, .int .i64 0, .int .i64 0, .int .i64 0, .int .i64 0, .int .i64 0, .int .i64 0, .int .i64 0, .int .i64 0, .int .i64 0, .int .i64 0, .int .i64 0, .int .i64 0, .int .i64 0, .int .i64 0, .int .i64 0, .int .i64 0, .int .i64 0, .int .i64 0, .int .i64 0, .int .i64 0, .int .i64 0, .int .i64 0, .int .i64 0, .int .i64 0, .int .i64 0, .int .i64 0, .int .i64 0, .int .i64 0, .int .i64 0, .int .i64 0, .int .i64 0, .int .i64 0, .int .i64 0, .int .i64 0, .int .i64 0, .int .i64 0, .int .i64 0, .int .i64 0, .int .i64 0, .int .i64 0, .int .i64 0, .int .i64 0, .int .i64 0, .int .i64 0, .int .i64 0, .int .i64 0, .int .i64 0, .int .i64 0, .int .i64 0, .int .i64 0, .int .i64 0, .int .i64 0, .int .i64 0] 364 fun w0 =>
 ∃ I1 : Nat → Int → World → Prop,
 (∃ n2, I1 n2 (0) w0) ∧
 ∀ (n2 : Nat) (us3 : Nat → Value) (x4 : Int) (w5 : World), I1 n2 x4 w5 →
 Br (x4 < 256)
 (∃ (x7 x8 : Int), LoadL w5 (some c0) 0 [x7, x8] ∧
 Cal 338 #[.agg #[x7, x8], x4] w5 (fun e w9 => ∃ (x10 x11 x12 : Int) (b13 : Bool), e = Value.tuple #[.agg #[x10, x11, x12], b13] ∧
 Aw w9 #[vzz, vzz, vzz] 23 fun w14 =>
 Sw w14 w9 #[x10, x11, x12] fun w15 =>
 ∃ (x16 : Int), ld w15 (some c1) = some (.int .i64 x16) ∧
 Cal 339 #[x16, x10, x12] w15 (Ri fun x18 w17 => Kp w9 w15 w17 ∧
 (0 : Int) ≤ x4 ∧ x4 < ((256 : Nat) : Int) ∧ (true = true ∧ Wr w17 (padd (pzq w) ((x4 : Int).toNat * 1)) 1) ∧ pblk (padd (pzq w) ((x4 : Int).toNat * 1)) ≠ some w9.heap.size ∧ (∀ w19, w19 = setP w17 (padd (pzq w) ((x4 : Int).toNat * 1)) [x18] →
 ∃ n6, n6 < n2 ∧ I1 n6 ((wqq (x4 + 1))) w19))))
 (∃ I20 : Nat → Int → World → Prop,
 (∃ n21, I20 n21 (0) w5) ∧
 ∀ (n21 : Nat) (us22 : Nat → Value) (x23 : Int) (w24 : World), I20 n21 x23 w24 →
 Br (x23 < 8192)
 ((0 : Int) ≤ (Int.tmod x23 256) ∧ ((Int.tmod x23 256) : Int) < ((256 : Nat) : Int) ∧ ∃ (x26 : Int), ld w24 (padd (pzq w) (((Int.tmod x23 256) : Int).toNat * 1)) = some (.int .i64 x26) ∧
 Cal 340 #[(wqq (Int.tdiv x23 256)), x26] w24 (fun e w27 => ∃ (x28 : Int), e = x28 ∧
 callV Tryz.prog a0 [x28] w27 (fun e w29 => ∃ (b30 : Bool), e = b30 ∧
 Br (!b30)
 (R tqq w29)
 (∃ n25, n25 < n21 ∧ I20 n25 ((wqq (x23 + 1))) w29))))
 (R tqq w24))) : Cal 337 #[a0, c0, c1] w R :=
 cq ⟨[(8, ⟨[(27, .int .i64)], [], []⟩), (2, ⟨[(9, .int .i64)], [], []⟩)], [], []⟩ Tryz.func337 h
theorem cell_From.vc (h :
 Aw w #[a0_0, a0_1] 139 fun w0 =>
 Aw w0 #[vzz, vzz, vzz] 23 fun w1 =>
 Br (a1 < 0)
 (Sw w1 w0 #[vzz, vzz, vzz] fun w2 =>
 R (Value.tuple #[.agg #[vzz, vzz, vzz], false]) w2)
 (Br (a1 ≥ 8192)
 (Sw w1 w0 #[vzz, vzz, vzz] fun w3 =>
 R (Value.tuple #[.agg #[vzz, vzz, vzz], false]) w3)
 (Sw w1 w0 #[(wqq ((wqq (a0_0 * 16)) + (Int.tmod a1 16))), (wqq (Int.tdiv a1 256)), (wqq ((wqq (a0_1 * 16)) + (Int.tmod (wqq (Int.tdiv a1 16)) 16)))] fun w4 =>
 R (Value.tuple #[.agg #[(wqq ((wqq (a0_0 * 16)) + (Int.tmod a1 16))), (wqq (Int.tdiv a1 256)), (wqq ((wqq (a0_1 * 16)) + (Int.tmod (wqq (Int.tdiv a1 16)) 16)))], true]) w4))) : Cal 338 #[.agg #[a0_0, a0_1], a1] w R :=
 cq an0 Tryz.func338 h
theorem gen_Ground.vc (h :
 Aw w #[a0] 3 fun w0 =>
 Cal 239 #[a1, (8:Int)] w0 (Ri fun x2 w1 => Kp w w0 w1 ∧
 Cal 239 #[a2, (8:Int)] w1 (Ri fun x4 w3 => Kp w w1 w3 ∧
 Cal 349 #[a1, (8:Int)] w3 (Ri fun x6 w5 => Kp w w3 w5 ∧
 Cal 349 #[a2, (8:Int)] w5 (Ri fun x8 w7 => Kp w w5 w7 ∧
 Cal 371 #[x2, x4, (wqq ((wqq (8 - x6)) * (wqq (8 - x8)))), w] w7 (fun e w9 => ∃ (x10 : Int), e = x10 ∧
 Cal 371 #[(wqq (x2 + 1)), x4, (wqq (x6 * (wqq (8 - x8)))), w] w9 (fun e w11 => ∃ (x12 : Int), e = x12 ∧
 Cal 371 #[x2, (wqq (x4 + 1)), (wqq ((wqq (8 - x6)) * x8)), w] w11 (fun e w13 => ∃ (x14 : Int), e = x14 ∧
 Cal 371 #[(wqq (x2 + 1)), (wqq (x4 + 1)), (wqq (x6 * x8)), w] w13 (fun e w15 => ∃ (x16 : Int), e = x16 ∧
 R ((wqq (6 + (wqq (Int.tdiv (wqq ((wqq ((wqq (x10 + x12)) + x14)) + x16)) 64))))) w15))))))))) : Cal 339 #[a0, a1, a2] w R :=
 cq an0 Tryz.func339 h
theorem gen_of.vc (h :
 Br (a0 < 0)
 (R (0:Int) w)
 (Br (a0 ≥ 32)
 (R (0:Int) w)
 (Br (a0 == 0)
 (R (1:Int) w)
 (Br (decide (a0 < (wqq (a1 - 3))))
 (R (1:Int) w)
 (Br (decide (a0 < (wqq (a1 - 1))))
 (R (2:Int) w)
 (Br (a0 == (wqq (a1 - 1)))
 (Br (a1 > 9)
 (R (2:Int) w)
 (Br (a0 == (wqq (a1 - 1)))
 (R (3:Int) w)
 (Br (a0 < 9)
 (R (8:Int) w)
 (R (0:Int) w))))
 (Br (a0 == (wqq (a1 - 1)))
 (R (3:Int) w)
 (Br (a0 < 9)
 (R (8:Int) w)
 (R (0:Int) w))))))))) : Cal 340 #[a0, a1] w R :=
 cq an0 Tryz.func340 h
theorem runs_push.vc {a0 : Sl} (h :
 Aw w #[a1_0, a1_1] 322 fun w0 =>
 Br (a1_0 < 1)
 (R a0 w0)
 (Br (decide (((wqq (((a0.n : Nat) : Int) - 1)) : Int) ≥ 0))
 (InB a0.a (wqq (((a0.n : Nat) : Int) - 1)) a0.n ∧ AndL (nnC (padd a0.a (((wqq (((a0.n : Nat) : Int) - 1)) : Int).toNat * 2))) (∃ (x1 : Int), ld w0.drew (padd (padd a0.a (((wqq (((a0.n : Nat) : Int) - 1)) : Int).toNat * 2)) 1) = some (.int .i64 x1) ∧
 Br (x1 == a1_1)
 (InB a0.a (wqq (((a0.n : Nat) : Int) - 1)) a0.n ∧ AndL (nnC (padd a0.a (((wqq (((a0.n : Nat) : Int) - 1)) : Int).toNat * 2))) (∃ (x2 : Int), ld w0.drew.drew (padd (padd a0.a (((wqq (((a0.n : Nat) : Int) - 1)) : Int).toNat * 2)) 0) = some (.int .i64 x2) ∧
 InB a0.a (wqq (((a0.n : Nat) : Int) - 1)) a0.n ∧ AndL (nnC (padd a0.a (((wqq (((a0.n : Nat) : Int) - 1)) : Int).toNat * 2))) ((((padd (padd a0.a (((wqq (((a0.n : Nat) : Int) - 1)) : Int).toNat * 2)) 0)).isSome = true ∧ Wr w0.drew.drew (padd (padd a0.a (((wqq (((a0.n : Nat) : Int) - 1)) : Int).toNat * 2)) 0) 1) ∧ pblk (padd (padd a0.a (((wqq (((a0.n : Nat) : Int) - 1)) : Int).toNat * 2)) 0) ≠ some w.heap.size ∧ (∀ w3, w3 = setP w0.drew.drew (padd (padd a0.a (((wqq (((a0.n : Nat) : Int) - 1)) : Int).toNat * 2)) 0) [(wqq (x2 + a1_0))] →
 R a0 w3))))
 (Aw w0.drew #[a1_0, a1_1] 322 fun w4 =>
 AppPre 16 2 w4 a0 1 [a1_0, a1_1] ∧ ∀ (s5 : Sl) (w6 : World), AppRes 322 2 w4 a0 1 [a1_0, a1_1] s5 w6 → Kp w w4 w6 ∧ w6.heap[w0.drew.heap.size]? = w4.heap[w0.drew.heap.size]? ∧
 R s5 w6)))
 (Aw w0.drew #[a1_0, a1_1] 322 fun w7 =>
 AppPre 16 2 w7 a0 1 [a1_0, a1_1] ∧ ∀ (s8 : Sl) (w9 : World), AppRes 322 2 w7 a0 1 [a1_0, a1_1] s8 w9 → Kp w w7 w9 ∧ w9.heap[w0.drew.heap.size]? = w7.heap[w0.drew.heap.size]? ∧
 R s8 w9))) : Cal 341 #[a0, .agg #[a1_0, a1_1]] w R :=
 cq an0 Tryz.func341 h
theorem strconv_Itoa.vc (h :
 Cal 282 #[a0] w (fun e w0 => ∃ (t1 : ByteArray), e = Value.string t1 ∧
 R (Value.string t1) w0)) : Cal 224 #[a0] w R :=
 cq an0 Tryz.func224 h
theorem runs_join.vc {a0 : Sl} (h :
 ∃ I0 : Nat → Int → Sl → World → Prop,
 (∃ n1, I0 n1 (0) ⟨none, 0, 0⟩ w) ∧
 ∀ (n1 : Nat) (us2 : Nat → Value) (x3 : Int) (s4 : Sl) (w5 : World), I0 n1 x3 s4 w5 →
 Br (decide (x3 < ((a0.n : Nat) : Int)))
 (InB a0.a x3 a0.n ∧ ∃ (s7 : Sl), ld w5 (padd a0.a ((x3 : Int).toNat * 1)) = some (.slice s7.a s7.n s7.c) ∧
 ∃ I8 : Nat → Int → Sl → World → Prop,
 (∃ n9, I8 n9 (0) s4 w5) ∧
 ∀ (n9 : Nat) (us10 : Nat → Value) (x11 : Int) (s12 : Sl) (w13 : World), I8 n9 x11 s12 w13 →
 Br (decide (x11 < ((s7.n : Nat) : Int)))
 (InB s7.a x11 s7.n ∧ ∃ (x15 x16 : Int), LoadL w13 (padd s7.a ((x11 : Int).toNat * 2)) 0 [x15, x16] ∧
 Aw w13 #[vzz, vzz] 322 fun w17 =>
 Sw w17 w13 #[x15, x16] fun w18 =>
 Cal 341 #[s12, .agg #[x15, x16]] w18 (Rs fun s20 w19 => Kp w13 w18 w19 ∧
 ∃ n14, n14 < n9 ∧ I8 n14 ((wqq (x11 + 1))) s20 w19))
 (∃ n6, n6 < n1 ∧ I0 n6 ((wqq (x3 + 1))) s12 w13))
 (R s4 w5)) : Cal 395 #[a0] w R :=
 cq ⟨[(6, ⟨[(16, .int .i64), (3, .slice)], [], []⟩), (3, ⟨[(10, .int .i64), (3, .slice)], [], []⟩)], [], []⟩ Tryz.func395 h
theorem runs_Cut.vc {a0 : Sl} (h :
 ∃ I0 : Nat → Int → Int → Sl → World → Prop,
 (∃ n1, I0 n1 (0) (0) ⟨none, 0, 0⟩ w) ∧
 ∀ (n1 : Nat) (us2 : Nat → Value) (x3 x4 : Int) (s5 : Sl) (w6 : World), I0 n1 x3 x4 s5 w6 →
 Br (decide (x3 < ((a0.n : Nat) : Int)))
 (InB a0.a x3 a0.n ∧ ∃ (x8 x9 : Int), LoadL w6 (padd a0.a ((x3 : Int).toNat * 2)) 0 [x8, x9] ∧
 Aw w6 #[vzz, vzz] 322 fun w10 =>
 Sw w10 w6 #[x8, x9] fun w11 =>
 Br (decide (((if (wqq (x4 + x8)) < a2 then (wqq (x4 + x8)) else a2) : Int) > (if x4 > a1 then x4 else a1)))
 (Cal 341 #[s5, .agg #[(wqq ((if (wqq (x4 + x8)) < a2 then (wqq (x4 + x8)) else a2) - (if x4 > a1 then x4 else a1))), x9]] w11.drew (Rs fun s13 w12 => Kp w6 w11.drew w12 ∧
 ∃ n7, n7 < n1 ∧ I0 n7 ((wqq (x3 + 1))) ((wqq (x4 + x8))) s13 w12))
 (∃ n7, n7 < n1 ∧ I0 n7 ((wqq (x3 + 1))) ((wqq (x4 + x8))) s5 w11.drew))
 (R s5 w6)) : Cal 396 #[a0, a1, a2] w R :=
 cq ⟨[(4, ⟨[(15, .int .i64), (8, .int .i64), (7, .slice)], [], []⟩)], [], []⟩ Tryz.func396 h
theorem runs_Make.vc (h :
 Cal 341 #[.slice none 0 0, .agg #[a0, a1]] w (fun e w0 => ∃ (s1 : Sl), e = s1 ∧
 R s1 w0)) : Cal 397 #[a0, a1] w R :=
 cq an0 Tryz.func397 h
theorem code_Number.vc (h :
 Br (a0 < 0)
 (R (Value.slice none 0 0) w)
 (Br (a0 > 1048576)
 (R (Value.slice none 0 0) w)
 (∃ I0 : Nat → Int → Sl → World → Prop,
 (∃ n1, I0 n1 a0 ⟨none, 0, 0⟩ w) ∧
 ∀ (n1 : Nat) (us2 : Nat → Value) (x3 : Int) (s4 : Sl) (w5 : World), I0 n1 x3 s4 w5 →
 Br (x3 ≥ 128)
 (Aw w5 #[.int .u8 (bOr .u8 (w8q x3) 128)] 5 fun w7 =>
 AppPre 1 1 w7 s4 1 [.int .u8 (bOr .u8 (w8q x3) 128)] ∧ ∀ (s8 : Sl) (w9 : World), AppRes 5 1 w7 s4 1 [.int .u8 (bOr .u8 (w8q x3) 128)] s8 w9 → Kp w5 w7 w9 ∧
 ∃ n6, n6 < n1 ∧ I0 n6 (((x3 : Int).fdiv (2 ^ (min (7 : Int).toNat 64)))) s8 w9)
 (Aw w5 #[.int .u8 (w8q x3)] 5 fun w10 =>
 AppPre 1 1 w10 s4 1 [.int .u8 (w8q x3)] ∧ ∀ (s11 : Sl) (w12 : World), AppRes 5 1 w10 s4 1 [.int .u8 (w8q x3)] s11 w12 → Kp w5 w10 w12 ∧
 R s11 w12)))) : Cal 348 #[a0] w R :=
 cq ⟨[(4, ⟨[(0, .int .i64), (3, .slice)], [], []⟩)], [], []⟩ Tryz.func348 h
theorem maps_Clone_byte.vc {a0 : Option Nat} (h :
 Br (a0).isNone
 (R (Value.map none) w)
 (ExtC Tryz.prog 386 [.iface 234 (.map a0)] w (fun e w0 => ∃ (v1 : Value), e = v1 ∧
 ∃ (m2 : Option Nat), (v1 : Value) = .iface 234 (.map m2) ∧
 R (Value.map m2) w0))) : Cal 369 #[.map a0] w R :=
 cq an0 Tryz.func369 h
theorem gen_Ground_1.vc {c0 : Addr} (h :
 ∃ (x0 : Int), ld w (some c0) = some (.int .i64 x0) ∧
 Cal 372 #[x0, a0, a1] w (fun e w1 => ∃ (x2 : Int), e = Value.int .u64 x2 ∧
 R ((wqq ((wqq (Int.tmod x2 9)) * a2))) w1)) : Cal 371 #[a0, a1, a2, c0] w R :=
 cq an0 Tryz.func371 h
theorem gen_Hash.vc (h :
 R (Value.int .u64 (bXor .u64 (w64q ((bXor .u64 (w64q ((w64q ((w64q ((w64q a0) * 11400714819323198485)) + (w64q ((w64q a1) * 14029467366897019727)))) + (w64q ((w64q a2) * 1609587929392839161)))) (((w64q ((w64q ((w64q ((w64q a0) * 11400714819323198485)) + (w64q ((w64q a1) * 14029467366897019727)))) + (w64q ((w64q a2) * 1609587929392839161)))) : Int).fdiv (2 ^ (min (29 : Int).toNat 64)))) * 13787848793156543929)) (((w64q ((bXor .u64 (w64q ((w64q ((w64q ((w64q a0) * 11400714819323198485)) + (w64q ((w64q a1) * 14029467366897019727)))) + (w64q ((w64q a2) * 1609587929392839161)))) (((w64q ((w64q ((w64q ((w64q a0) * 11400714819323198485)) + (w64q ((w64q a1) * 14029467366897019727)))) + (w64q ((w64q a2) * 1609587929392839161)))) : Int).fdiv (2 ^ (min (29 : Int).toNat 64)))) * 13787848793156543929)) : Int).fdiv (2 ^ (min (32 : Int).toNat 64))))) w) : Cal 372 #[a0, a1, a2] w R :=
 cq an0 Tryz.func372 h
theorem internal_strconv_Itoa.vc (h :
 Cal 331 #[a0, (10:Int)] w (fun e w0 => ∃ (t1 : ByteArray), e = Value.string t1 ∧
 R (Value.string t1) w0)) : Cal 282 #[a0] w R :=
 cq an0 Tryz.func282 h
theorem internal_strconv_small.vc (h :
 Br (a0 < 10)
 ((0 : Int) ≤ (wqq (a0 + 1)) ∧ (wqq (a0 + 1)) ≤ ((((ByteArray.mk #[48, 49, 50, 51, 52, 53, 54, 55, 56, 57, 97, 98, 99, 100, 101, 102, 103, 104, 105, 106, 107, 108, 109, 110, 111, 112, 113, 114, 115, 116, 117, 118, 119, 120, 121, 122])).size : Nat) : Int) ∧ (0 : Int) ≤ a0 ∧ a0 ≤ (wqq (a0 + 1)) ∧ R (Value.string (((ByteArray.mk #[48, 49, 50, 51, 52, 53, 54, 55, 56, 57, 97, 98, 99, 100, 101, 102, 103, 104, 105, 106, 107, 108, 109, 110, 111, 112, 113, 114, 115, 116, 117, 118, 119, 120, 121, 122])).extract ((a0 : Int).toNat) (((wqq (a0 + 1)) : Int).toNat))) w)
 ((0 : Int) ≤ (wqq ((wqq (a0 * 2)) + 2)) ∧ (wqq ((wqq (a0 * 2)) + 2)) ≤ ((((ByteArray.mk #[48, 48, 48, 49, 48, 50, 48, 51, 48, 52, 48, 53, 48, 54, 48, 55, 48, 56, 48, 57, 49, 48, 49, 49, 49, 50, 49, 51, 49, 52, 49, 53, 49, 54, 49, 55, 49, 56, 49, 57, 50, 48, 50, 49, 50, 50, 50, 51, 50, 52, 50, 53, 50, 54, 50, 55, 50, 56, 50, 57, 51, 48, 51, 49, 51, 50, 51, 51, 51, 52, 51, 53, 51, 54, 51, 55, 51, 56, 51, 57, 52, 48, 52, 49, 52, 50, 52, 51, 52, 52, 52, 53, 52, 54, 52, 55, 52, 56, 52, 57, 53, 48, 53, 49, 53, 50, 53, 51, 53, 52, 53, 53, 53, 54, 53, 55, 53, 56, 53, 57, 54, 48, 54, 49, 54, 50, 54, 51, 54, 52, 54, 53, 54, 54, 54, 55, 54, 56, 54, 57, 55, 48, 55, 49, 55, 50, 55, 51, 55, 52, 55, 53, 55, 54, 55, 55, 55, 56, 55, 57, 56, 48, 56, 49, 56, 50, 56, 51, 56, 52, 56, 53, 56, 54, 56, 55, 56, 56, 56, 57, 57, 48, 57, 49, 57, 50, 57, 51, 57, 52, 57, 53, 57, 54, 57, 55, 57, 56, 57, 57])).size : Nat) : Int) ∧ (0 : Int) ≤ (wqq (a0 * 2)) ∧ ((wqq (a0 * 2)) : Int) ≤ (wqq ((wqq (a0 * 2)) + 2)) ∧ R (Value.string (((ByteArray.mk #[48, 48, 48, 49, 48, 50, 48, 51, 48, 52, 48, 53, 48, 54, 48, 55, 48, 56, 48, 57, 49, 48, 49, 49, 49, 50, 49, 51, 49, 52, 49, 53, 49, 54, 49, 55, 49, 56, 49, 57, 50, 48, 50, 49, 50, 50, 50, 51, 50, 52, 50, 53, 50, 54, 50, 55, 50, 56, 50, 57, 51, 48, 51, 49, 51, 50, 51, 51, 51, 52, 51, 53, 51, 54, 51, 55, 51, 56, 51, 57, 52, 48, 52, 49, 52, 50, 52, 51, 52, 52, 52, 53, 52, 54, 52, 55, 52, 56, 52, 57, 53, 48, 53, 49, 53, 50, 53, 51, 53, 52, 53, 53, 53, 54, 53, 55, 53, 56, 53, 57, 54, 48, 54, 49, 54, 50, 54, 51, 54, 52, 54, 53, 54, 54, 54, 55, 54, 56, 54, 57, 55, 48, 55, 49, 55, 50, 55, 51, 55, 52, 55, 53, 55, 54, 55, 55, 55, 56, 55, 57, 56, 48, 56, 49, 56, 50, 56, 51, 56, 52, 56, 53, 56, 54, 56, 55, 56, 56, 56, 57, 57, 48, 57, 49, 57, 50, 57, 51, 57, 52, 57, 53, 57, 54, 57, 55, 57, 56, 57, 57])).extract (((wqq (a0 * 2)) : Int).toNat) (((wqq ((wqq (a0 * 2)) + 2)) : Int).toNat))) w)) : Cal 364 #[a0] w R :=
 cq an0 Tryz.func364 h
theorem world_World_Set.vc {a0 : Addr} (h :
 Aw w #[a1_0, a1_1, a1_2] 23 fun w0 =>
 ∃ (p1 : Option Addr), ld w0.drew (padd (some a0) 0) = some (.pointer p1) ∧
 Cal 113 #[p1, .agg #[a1_0, a1_1, a1_2]] w0.drew (Ri fun x3 w2 => Kp w w0.drew w2 ∧
 ∃ (p4 : Option Addr), ld w2.drew (padd (some a0) 0) = some (.pointer p4) ∧
 Cal 307 #[p4, .agg #[a1_0, a1_1, a1_2], a2] w2.drew (Ri fun x6 w5 => Kp w w2.drew w5 ∧
 Br (x6 == 0)
 (Br (x3 != a2)
 (∃ (s7 : Sl), ld w5.drew (padd (some a0) 1) = some (.slice s7.a s7.n s7.c) ∧
 Aw w5.drew #[a1_0, a1_1, a1_2, a2] 269 fun w8 =>
 AppPre 32 4 w8 s7 1 [a1_0, a1_1, a1_2, a2] ∧ ∀ (s9 : Sl) (w10 : World), AppRes 269 4 w8 s7 1 [a1_0, a1_1, a1_2, a2] s9 w10 → Kp w w8 w10 ∧ w10.heap[w5.drew.heap.size]? = w8.heap[w5.drew.heap.size]? ∧
 (true = true ∧ Wr w10 (padd (some a0) 1) 1) ∧ pblk (padd (some a0) 1) ≠ some w.heap.size ∧ pblk (padd (some a0) 1) ≠ some w5.drew.heap.size ∧ (∀ w11, w11 = setP w10 (padd (some a0) 1) [s9] →
 R x6 w11))
 (R x6 w5))
 (R x6 w5)))) : Cal 250 #[a0, .agg #[a1_0, a1_1, a1_2], a2] w R :=
 cq an0 Tryz.func250 h
theorem world_New.vc (h :
 Cal 176 #[a0, a1, a2] w (fun e w0 => ∃ (p1 : Option Addr), e = p1 ∧
 Aw w0 #[p1, .slice none 0 0] 132 fun w2 =>
 R (Value.pointer (pzq w0)) w2)) : Cal 115 #[a0, a1, a2] w R :=
 cq an0 Tryz.func115 h
theorem world_World_Table.vc {a0 : Addr} (h :
 ∃ (p0 : Option Addr), ld w (padd (some a0) 0) = some (.pointer p0) ∧
 R p0 w) : Cal 40 #[a0] w R :=
 cq an0 Tryz.func40 h
theorem table_Table_Load.vc {a0 : Addr} (h :
 Aw w #[a1_0, a1_1] 139 fun w0 =>
 Cal 157 #[.agg #[a1_0, a1_1]] w0 (fun e w1 => ∃ (x2 : Int) (b3 : Bool), e = Value.tuple #[x2, b3] ∧ Kp w w0 w1 ∧
 Br (!b3)
 (R (5:Int) w1)
 (Cal 158 #[a0, .agg #[a1_0, a1_1]] w1 (Ri fun x5 w4 => Kp w w1 w4 ∧
 Br (x5 ≥ 0)
 (Cal 159 #[a0, x5] w4 (fun e w6 => ∃ (p7 : Option Addr), e = p7 ∧ Kp w w4 w6 ∧
 R (0:Int) w6))
 (Cal 160 #[a0] w4 (Ri fun x9 w8 => Kp w w4 w8 ∧
 Br (x9 != 0)
 (R x9 w8)
 (∃ (p10 : Option Addr), ld w8 (padd (some a0) 0) = some (.pointer p10) ∧
 Cal 161 #[p10, x2] w8 (fun e w11 => ∃ (s12 : Sl) (x13 : Int) (b14 : Bool), e = Value.tuple #[s12, x13, b14] ∧ Kp w w8 w11 ∧
 Cal 162 #[.agg #[a1_0, a1_1], s12] w11 (fun e w15 => ∃ (p16 : Option Addr) (x17 : Int), e = Value.tuple #[p16, x17] ∧ Kp w w11 w15 ∧
 Br (x17 != 0)
 (∃ (x18 : Int), ld w15.drew (padd (some a0) 1) = some (.int .i64 x18) ∧
 Cal 163 #[x18, .agg #[a1_0, a1_1]] w15.drew (fun e w19 => ∃ (p20 : Option Addr), e = p20 ∧ Kp w w15.drew w19 ∧
 ∃ (s21 : Sl), ld w19 (padd (some a0) 3) = some (.slice s21.a s21.n s21.c) ∧
 Aw w19 #[p20, false, vzz] 143 fun w22 =>
 Aw w22 #[.pointer (pzq w19)] 137 fun w23 =>
 AppPre 8 1 w23 s21 1 [.pointer (pzq w19)] ∧ ∀ (s24 : Sl) (w25 : World), AppRes 137 1 w23 s21 1 [.pointer (pzq w19)] s24 w25 → K2 w w22 w23 w25 (
 (true = true ∧ Wr w25 (padd (some a0) 3) 1) ∧ pblk (padd (some a0) 3) ≠ some w.heap.size ∧ pblk (padd (some a0) 3) ≠ some w22.heap.size ∧ (∀ w26, w26 = setP w25 (padd (some a0) 3) [s24] →
 R (0:Int) w26))))
 (∃ (s27 : Sl), ld w15 (padd (some a0) 3) = some (.slice s27.a s27.n s27.c) ∧
 Aw w15 #[p16, false, vzz] 143 fun w28 =>
 Aw w28 #[.pointer (pzq w15)] 137 fun w29 =>
 AppPre 8 1 w29 s27 1 [.pointer (pzq w15)] ∧ ∀ (s30 : Sl) (w31 : World), AppRes 137 1 w29 s27 1 [.pointer (pzq w15)] s30 w31 → K2 w w28 w29 w31 (
 (true = true ∧ Wr w31 (padd (some a0) 3) 1) ∧ pblk (padd (some a0) 3) ≠ some w.heap.size ∧ pblk (padd (some a0) 3) ≠ some w28.heap.size ∧ (∀ w32, w32 = setP w31 (padd (some a0) 3) [s30] →
 R (0:Int) w32)))))))))))) : Cal 88 #[a0, .agg #[a1_0, a1_1]] w R :=
 cq an0 Tryz.func88 h
theorem table_Table_At.vc {a0 : Addr} (h :
 Aw w #[a1_0, a1_1, a1_2] 23 fun w0 =>
 Cal 172 #[.agg #[a1_0, a1_1, a1_2]] w0 (Ra2 fun x2 x3 w1 => Kp w w0 w1 ∧
 Cal 158 #[a0, .agg #[x2, x3]] w1 (Ri fun x5 w4 => Kp w w1 w4 ∧
 Br (x5 < 0)
 (R (Value.int .i64 (-1)) w4)
 (Br (a1_1 < 0)
 (R (1:Int) w4)
 (∃ (s6 : Sl), ld w4.drew (padd (some a0) 3) = some (.slice s6.a s6.n s6.c) ∧
 InB s6.a x5 s6.n ∧ ∃ (p7 : Option Addr), ld w4.drew (padd s6.a ((x5 : Int).toNat * 1)) = some (.pointer p7) ∧
 AndL (nnC p7) (AndL (nnC p7) (∃ (p8 : Option Addr), ld w4.drew (padd p7 0) = some (.pointer p8) ∧
 Cal 173 #[p8, .agg #[a1_0, a1_1, a1_2]] w4.drew (fun e w9 => ∃ (x10 : Int) (b11 : Bool), e = Value.tuple #[x10, b11] ∧ Kp w w4.drew w9 ∧
 LoadL w9 (padd s6.a ((x5 : Int).toNat * 1)) 0 [.pointer p7] ∧ LoadL w9 (padd (some a0) 3) 0 [s6] ∧ R x10 w9)))))))) : Cal 113 #[a0, .agg #[a1_0, a1_1, a1_2]] w R :=
 cq an0 Tryz.func113 h
theorem ref04_Good.vc (h :
 Cal 12 #[a0, (14:Int)] w (fun e w0 => ∃ (x1 : Int), e = x1 ∧
 Br (x1 > 5)
 (R ((wqq (x1 + 2))) w0)
 (R x1 w0))) : Cal 17 #[a0] w R :=
 cq an0 Tryz.func17 h
theorem table_Table_Set.vc {a0 : Addr} (h :
 Aw w #[a1_0, a1_1, a1_2] 23 fun w0 =>
 Cal 172 #[.agg #[a1_0, a1_1, a1_2]] w0 (Ra2 fun x2 x3 w1 => Kp w w0 w1 ∧
 Cal 158 #[a0, .agg #[x2, x3]] w1 (Ri fun x5 w4 => Kp w w1 w4 ∧
 Cal 296 #[.agg #[a1_0, a1_1, a1_2]] w4 (fun e w6 => ∃ (x7 : Int) (b8 : Bool), e = Value.tuple #[x7, b8] ∧ Kp w w4 w6 ∧
 Br (x5 < 0)
 (R (11:Int) w6)
 (Br (!b8)
 (R (5:Int) w6)
 (Cal 189 #[a2] w6 (Rb fun b10 w9 => Kp w w6 w9 ∧
 Br (!b10)
 (R (1:Int) w9)
 (Cal 159 #[a0, x5] w9 (fun e w11 => ∃ (p12 : Option Addr), e = p12 ∧ Kp w w9 w11 ∧
 AndL (nnC p12) (AndL (nnC p12) (∃ (p13 : Option Addr), ld w11.drew (padd p12 0) = some (.pointer p13) ∧
 Cal 173 #[p13, .agg #[a1_0, a1_1, a1_2]] w11.drew (fun e w14 => ∃ (x15 : Int) (b16 : Bool), e = Value.tuple #[x15, b16] ∧ Kp w w11.drew w14 ∧
 AndL (nnC p12) (AndL (nnC p12) (∃ (b17 : Bool), ld w14 (padd p12 1) = some (.bool b17) ∧
 Br b17
 (AndL (nnC p12) (AndL (nnC p12) ((((padd p12 1)).isSome = true ∧ Wr w14 (padd p12 1) 1) ∧ pblk (padd p12 1) ≠ some w.heap.size ∧ (∀ w18, w18 = setP w14 (padd p12 1) [.bool true] →
 AndL (nnC p12) (AndL (nnC p12) (∃ (p19 : Option Addr), ld w18.drew (padd p12 0) = some (.pointer p19) ∧
 Cal 352 #[p19, .agg #[a1_0, a1_1, a1_2], a2] w18.drew (Ri fun x21 w20 => Kp w w18.drew w20 ∧
 R x21 w20)))))))
 (AndL (nnC p12) (AndL (nnC p12) ((((padd p12 1)).isSome = true ∧ Wr w14 (padd p12 1) 1) ∧ pblk (padd p12 1) ≠ some w.heap.size ∧ (∀ w22, w22 = setP w14 (padd p12 1) [.bool (x15 != a2)] →
 AndL (nnC p12) (AndL (nnC p12) (∃ (p23 : Option Addr), ld w22.drew (padd p12 0) = some (.pointer p23) ∧
 Cal 352 #[p23, .agg #[a1_0, a1_1, a1_2], a2] w22.drew (Ri fun x25 w24 => Kp w w22.drew w24 ∧
 R x25 w24))))))))))))))))))))) : Cal 307 #[a0, .agg #[a1_0, a1_1, a1_2], a2] w R :=
 cq an0 Tryz.func307 h
theorem table_New.vc (h :
 Cal 242 #[a2] w (fun e w0 => ∃ (p1 : Option Addr), e = p1 ∧
 Aw w0 #[p1, a0, .int .i64 (if 16 < (if 1 > a1 then 1 else a1) then 16 else (if 1 > a1 then 1 else a1)), .slice none 0 0] 136 fun w2 =>
 R (Value.pointer (pzq w0)) w2)) : Cal 176 #[a0, a1, a2] w R :=
 cq an0 Tryz.func176 h
theorem table_Id.vc (h :
 Aw w #[a0_0, a0_1] 139 fun w0 =>
 Br (a0_0 < (-524288))
 (R (Value.tuple #[vzz, false]) w0)
 (Br (a0_0 ≥ 524288)
 (R (Value.tuple #[vzz, false]) w0)
 (Br (a0_1 < (-524288))
 (R (Value.tuple #[vzz, false]) w0)
 (Br (a0_1 ≥ 524288)
 (R (Value.tuple #[vzz, false]) w0)
 (R (Value.tuple #[(wqq ((wqq ((wqq ((wqq ((wqq ((wqq (a0_0 + 524288)) * 2)) * 524288)) + a0_1)) + 524288)) + 1)), true]) w0))))) : Cal 157 #[.agg #[a0_0, a0_1]] w R :=
 cq an0 Tryz.func157 h
theorem table_Table_find.vc {a0 : Addr} (h :
 Aw w #[a1_0, a1_1] 139 fun w0 =>
 ∃ (s1 : Sl), ld w0 (padd (some a0) 3) = some (.slice s1.a s1.n s1.c) ∧
 Cal 227 #[s1, .func (.func 228) #[] #[w]] w0 (fun e w2 => ∃ (x3 : Int), e = x3 ∧
 R x3 w2)) : Cal 158 #[a0, .agg #[a1_0, a1_1]] w R :=
 cq an0 Tryz.func158 h
theorem table_Table_touch.vc {a0 : Addr} (h :
 Cal 165 #[a0, a1] w (fun e w0 => ∃ (p1 : Option Addr), e = p1 ∧
 ∃ (s2 : Sl), ld w0 (padd (some a0) 3) = some (.slice s2.a s2.n s2.c) ∧
 Aw w0 #[p1] 137 fun w3 =>
 AppPre 8 1 w3 s2 1 [.pointer p1] ∧ ∀ (s4 : Sl) (w5 : World), AppRes 137 1 w3 s2 1 [.pointer p1] s4 w5 → Kp w0 w3 w5 ∧
 (true = true ∧ Wr w5 (padd (some a0) 3) 1) ∧ pblk (padd (some a0) 3) ≠ some w0.heap.size ∧ (∀ w6, w6 = setP w5 (padd (some a0) 3) [s4] →
 R p1 w6))) : Cal 159 #[a0, a1] w R :=
 cq an0 Tryz.func159 h
theorem table_Table_room.vc {a0 : Addr} (h :
 ∃ (s0 : Sl), ld w.drew (padd (some a0) 3) = some (.slice s0.a s0.n s0.c) ∧
 ∃ (x1 : Int), ld w.drew (padd (some a0) 2) = some (.int .i64 x1) ∧
 Br (decide ((((s0.n : Nat) : Int) : Int) < x1))
 (R (0:Int) w.drew)
 (∃ (s2 : Sl), ld w.drew (padd (some a0) 3) = some (.slice s2.a s2.n s2.c) ∧
 Cal 227 #[s2, .func (.func 229) #[] #[]] w.drew (fun e w3 => ∃ (x4 : Int), e = x4 ∧
 Br (x4 < 0)
 (R (8:Int) w3)
 (∃ (s5 : Sl), ld w3 (padd (some a0) 3) = some (.slice s5.a s5.n s5.c) ∧
 InB s5.a x4 s5.n ∧ ∃ (p6 : Option Addr), ld w3 (padd s5.a ((x4 : Int).toNat * 1)) = some (.pointer p6) ∧
 Cal 164 #[a0, p6] w3 (fun e w7 => ∃ (x8 : Int), e = x8 ∧
 Br (x8 == 0)
 (Cal 165 #[a0, x4] w7 (fun e w9 => ∃ (p10 : Option Addr), e = p10 ∧
 R x8 w9))
 (R x8 w7)))))) : Cal 160 #[a0] w R :=
 cq an0 Tryz.func160 h
theorem store_Store_Load.vc {a0 : Addr} (h :
 Cal 230 #[a1] w (fun e w0 => ∃ (b1 : Bool), e = b1 ∧
 Br (!b1)
 (R (Value.tuple #[.slice none 0 0, vzz, false]) w0)
 (Cal 231 #[a0, a1] w0 (fun e w2 => ∃ (x3 x4 : Int) (s5 : Sl), e = Value.agg #[x3, x4, s5] ∧
 Aw w2 #[vzz, vzz, .slice none 0 0] 276 fun w6 =>
 Sw w6 w2 #[x3, x4, s5] fun w7 =>
 R (Value.tuple #[s5, x4, .bool (decide (x4 > 0))]) w7.drew)))) : Cal 161 #[a0, a1] w R :=
 cq an0 Tryz.func161 h
theorem chunk_Read.vc {a1 : Sl} (h :
 Aw w #[a0_0, a0_1] 139 fun w0 =>
 Cal 232 #[a1, (8192:Int)] w0 (fun e w1 => ∃ (s2 : Sl) (x3 : Int), e = Value.tuple #[s2, x3] ∧ Kp w w0 w1 ∧
 Br (x3 != 0)
 (R (Value.tuple #[.pointer none, x3]) w1)
 (Cal 233 #[.agg #[a0_0, a0_1], s2] w1 (fun e w4 => ∃ (p5 : Option Addr) (x6 : Int), e = Value.tuple #[p5, x6] ∧ Kp w w1 w4 ∧
 R (Value.tuple #[p5, x6]) w4)))) : Cal 162 #[.agg #[a0_0, a0_1], a1] w R :=
 cq an0 Tryz.func162 h
theorem chunk_Make.vc (h :
 Aw w #[a1_0, a1_1] 139 fun w0 =>
 (Cal 234 #[a0, .agg #[a1_0, a1_1]] w0.drew (Rs fun s2 w1 => Kp w w0.drew w1 ∧
 Aw w1 #[a1_0, a1_1, s2] 148 fun w3 =>
 R (Value.pointer (pzq w1)) w3)) ∧ (Cal 234 #[a0, .agg #[a1_0, a1_1]] w0.drew (Rs fun s5 w4 => Kp w w0.drew w4 ∧
 LoadL w4 w 0 [a1_0, a1_1] ∧ Aw w4 #[a1_0, a1_1, s5] 148 fun w6 =>
 R (Value.pointer (pzq w4)) w6))) : Cal 163 #[a0, .agg #[a1_0, a1_1]] w R :=
 cq an0 Tryz.func163 h
theorem cell_Chunk.vc (h :
 Aw w #[a0_0, a0_1, a0_2] 23 fun w0 =>
 Aw w0 #[vzz, vzz] 139 fun w1 =>
 Cal 239 #[a0_0, (16:Int)] w1.drew (Ri fun x3 w2 => K2 w w0 w1.drew w2 (
 LoadL w2 (pnq w 2) 0 [a0_2] ∧ Cal 239 #[a0_2, (16:Int)] w2 (Ri fun x5 w4 => K2 w w0 w2 w4 (
 Sw w4 w0 #[x3, x5] fun w6 =>
 R (Value.agg #[x3, x5]) w6))))) : Cal 172 #[.agg #[a0_0, a0_1, a0_2]] w R :=
 cq an0 Tryz.func172 h
theorem chunk_Chunk_At.vc {a0 : Addr} (h :
 Aw w #[a1_0, a1_1, a1_2] 23 fun w0 =>
 ∃ (x1 x2 : Int), LoadL w0.drew (padd (some a0) 0) 0 [x1, x2] ∧
 Cal 240 #[.agg #[x1, x2], .agg #[a1_0, a1_1, a1_2]] w0.drew (fun e w3 => ∃ (x4 : Int) (b5 : Bool), e = Value.tuple #[x4, b5] ∧ Kp w w0.drew w3 ∧
 Br (!b5)
 (R (Value.tuple #[vzz, false]) w3)
 (∃ (s6 : Sl), ld w3 (padd (some a0) 2) = some (.slice s6.a s6.n s6.c) ∧
 Cal 241 #[s6, x4] w3 (Ri fun x8 w7 => Kp w w3 w7 ∧
 R (Value.tuple #[x8, true]) w7)))) : Cal 173 #[a0, .agg #[a1_0, a1_1, a1_2]] w R :=
 cq an0 Tryz.func173 h
theorem block_Falls.vc (h :
 R (Value.bool (a0 == 3)) w) : Cal 222 #[a0] w R :=
 cq an0 Tryz.func222 h
theorem block_Solid.vc (h :
 Br (a0 == (-1))
 (Br (a0 == (-1))
 (R true w)
 (R false w))
 (Br (a0 == 1)
 (Br (a0 == 1)
 (R true w)
 (R false w))
 (Br (a0 == 2)
 (Br (a0 == 2)
 (R true w)
 (R false w))
 (Br (a0 == 3)
 (Br (a0 == 3)
 (R true w)
 (R false w))
 (Br (a0 == 5)
 (R true w)
 (R false w)))))) : Cal 187 #[a0] w R :=
 cq an0 Tryz.func187 h
end Go.Proofs.YtjcnjlaelhdjeaaGreatDoor
namespace Go.Proofs.YtjcnjlaelhdjeaaGreatDoor
open Go Go.Vc Go.RowKit Go.Proofs
set_option maxRecDepth 100000
set_option maxHeartbeats 8000000
set_option linter.unusedVariables false
variable {R : Ending → World → Prop} {w : World} {a0 a1 a2 a3 a4 a5 a6 a7 a8 a9 a0_0 a0_1 a0_2 a0_3 a0_4 a0_5 a0_6 a0_7 a0_8 a0_9 a1_0 a1_1 a1_2 a1_3 a1_4 a1_5 a1_6 a1_7 a1_8 a1_9 a2_0 a2_1 a2_2 a2_3 a2_4 a2_5 a2_6 a2_7 a2_8 a2_9 a3_0 a3_1 a3_2 a3_3 a3_4 a3_5 a3_6 a3_7 a3_8 a3_9 : Int}
theorem disk_Disk_failed.vc {a0 : Addr} (h :
 ∃ (x0 : Int), ld w (padd (some a0) 2) = some (.int .i64 x0) ∧
 Br (x0 > 0)
 (∃ (x1 : Int), ld w (padd (some a0) 2) = some (.int .i64 x1) ∧
 (true = true ∧ Wr w (padd (some a0) 2) 1) ∧ (∀ w2, w2 = setP w (padd (some a0) 2) [(wqq (x1 - 1))] →
 R false w2))
 (∃ (x3 : Int), ld w (padd (some a0) 1) = some (.int .i64 x3) ∧
 Br (x3 > 0)
 (∃ (x4 : Int), ld w (padd (some a0) 1) = some (.int .i64 x4) ∧
 (true = true ∧ Wr w (padd (some a0) 1) 1) ∧ (∀ w5, w5 = setP w (padd (some a0) 1) [(wqq (x4 - 1))] →
 R (Value.bool (decide (x3 > 0))) w5))
 (R (Value.bool (decide (x3 > 0))) w))) : Cal 345 #[a0] w R :=
 cq an0 Tryz.func345 h
theorem disk_Disk_Put.vc {a0 : Addr} {a2 : Sl} (h :
 Cal 345 #[a0] w (fun e w0 => ∃ (b1 : Bool), e = b1 ∧
 Br b1
 (R (9:Int) w0)
 (Cal 333 #[a0] w0 (fun e w2 => ∃ (m3 : Option Nat), e = Value.map m3 ∧
 ∃ (x4 : Int), ld w2.drew (padd (some a0) 0) = some (.int .i64 x4) ∧
 (Cal 346 #[.map m3] w2.drew (fun e w5 => ∃ (x6 : Int), e = x6 ∧
 LoadL w5 (padd (some a0) 0) 0 [x4] ∧ ∃ (G7 : Value → Prop) (kvs8 : List (Value × Value)), KeyOk Tryz.prog 3 G7 ∧ MapIs G7 w5 m3 kvs8 ∧ G7 a1 ∧ ∃ (s9 : Sl), ∃ b10 : Bool, Look kvs8 a1 (.slice none 0 0) s9 b10 ∧
 LoadL w5 (padd (some a0) 0) 0 [x4] ∧ Br (decide (((wqq (x6 - ((s9.n : Nat) : Int))) : Int) > (wqq (x4 - ((a2.n : Nat) : Int)))))
 (R (8:Int) w5)
 (∃ (s11 : Sl), ld w5.drew (padd (some a0) 4) = some (.slice s11.a s11.n s11.c) ∧
 Cal 334 #[a2] w5.drew (fun e w12 => ∃ (s13 : Sl), e = s13 ∧
 LoadL w12 (padd (some a0) 4) 0 [s11] ∧ Aw w12 #[a1, s13] 337 fun w14 =>
 AppPre 32 2 w14 s11 1 [a1, s13] ∧ ∀ (s15 : Sl) (w16 : World), AppRes 337 2 w14 s11 1 [a1, s13] s15 w16 → Kp w12 w14 w16 ∧
 (true = true ∧ Wr w16 (padd (some a0) 4) 1) ∧ pblk (padd (some a0) 4) ≠ some w12.heap.size ∧ (∀ w17, w17 = setP w16 (padd (some a0) 4) [s15] →
 R (0:Int) w17))))) ∧ (∃ (G18 : Value → Prop) (kvs19 : List (Value × Value)), KeyOk Tryz.prog 3 G18 ∧ MapIs G18 w2.drew m3 kvs19 ∧ G18 a1 ∧ ∃ (s20 : Sl), ∃ b21 : Bool, Look kvs19 a1 (.slice none 0 0) s20 b21 ∧
 LoadL w2.drew (padd (some a0) 0) 0 [x4] ∧ Cal 346 #[.map m3] w2.drew (fun e w22 => ∃ (x23 : Int), e = x23 ∧
 LoadL w22 (padd (some a0) 0) 0 [x4] ∧ Br (decide (((wqq (x23 - ((s20.n : Nat) : Int))) : Int) > (wqq (x4 - ((a2.n : Nat) : Int)))))
 (R (8:Int) w22)
 (∃ (s24 : Sl), ld w22.drew (padd (some a0) 4) = some (.slice s24.a s24.n s24.c) ∧
 Cal 334 #[a2] w22.drew (fun e w25 => ∃ (s26 : Sl), e = s26 ∧
 LoadL w25 (padd (some a0) 4) 0 [s24] ∧ Aw w25 #[a1, s26] 337 fun w27 =>
 AppPre 32 2 w27 s24 1 [a1, s26] ∧ ∀ (s28 : Sl) (w29 : World), AppRes 337 2 w27 s24 1 [a1, s26] s28 w29 → Kp w25 w27 w29 ∧
 (true = true ∧ Wr w29 (padd (some a0) 4) 1) ∧ pblk (padd (some a0) 4) ≠ some w25.heap.size ∧ (∀ w30, w30 = setP w29 (padd (some a0) 4) [s28] →
 R (0:Int) w30))))))))) : Cal 293 #[a0, a1, a2] w R :=
 cq an0 Tryz.func293 h
theorem disk_Disk_Sync.vc {a0 : Addr} (h :
 Cal 345 #[a0] w (fun e w0 => ∃ (b1 : Bool), e = b1 ∧
 Br b1
 (R (9:Int) w0)
 (Cal 333 #[a0] w0 (fun e w2 => ∃ (m3 : Option Nat), e = Value.map m3 ∧
 (true = true ∧ Wr w2 (padd (some a0) 3) 1) ∧ (∀ w4, w4 = setP w2 (padd (some a0) 3) [.map m3] →
 (true = true ∧ Wr w4 (padd (some a0) 4) 1) ∧ (∀ w5, w5 = setP w4 (padd (some a0) 4) [.slice none 0 0] →
 R (0:Int) w5)))))) : Cal 294 #[a0] w R :=
 cq an0 Tryz.func294 h
theorem store_put.vc {a0 : Sl} (h :
 ∃ I0 : Nat → Int → Sl → World → Prop,
 (∃ n1, I0 n1 ((wqq (a2 - 1))) a0 w) ∧
 ∀ (n1 : Nat) (us2 : Nat → Value) (x3 : Int) (s4 : Sl) (w5 : World), I0 n1 x3 s4 w5 →
 Br (x3 ≥ 0)
 (AndL (ngC (wqq (8 * x3))) (Aw w5 #[.int .u8 (w8q ((a1 : Int).fdiv (2 ^ (min ((wqq (8 * x3)) : Int).toNat 64))))] 5 fun w7 =>
 AppPre 1 1 w7 s4 1 [.int .u8 (w8q ((a1 : Int).fdiv (2 ^ (min ((wqq (8 * x3)) : Int).toNat 64))))] ∧ ∀ (s8 : Sl) (w9 : World), AppRes 5 1 w7 s4 1 [.int .u8 (w8q ((a1 : Int).fdiv (2 ^ (min ((wqq (8 * x3)) : Int).toNat 64))))] s8 w9 → Kp w5 w7 w9 ∧
 ∃ n6, n6 < n1 ∧ I0 n6 ((wqq (x3 - 1))) s8 w9))
 (R s4 w5)) : Cal 342 #[a0, a1, a2] w R :=
 cq ⟨[(2, ⟨[(7, .int .i64), (0, .slice)], [], []⟩)], [], []⟩ Tryz.func342 h
theorem store_take.vc {a0 : Sl} (h :
 ∃ I0 : Nat → Int → Int → World → Prop,
 (∃ n1, I0 n1 (0) (0) w) ∧
 ∀ (n1 : Nat) (us2 : Nat → Value) (x3 x4 : Int) (w5 : World), I0 n1 x3 x4 w5 →
 Br (decide (x3 < ((a0.n : Nat) : Int)))
 (InB a0.a x3 a0.n ∧ ∃ (x7 : Int), ld w5 (padd a0.a ((x3 : Int).toNat * 1)) = some (.int .u8 x7) ∧
 ∃ n6, n6 < n1 ∧ I0 n6 ((wqq (x3 + 1))) ((bOr .i64 (wqq (x4 * 2 ^ (min (8 : Int).toNat 64))) (wqq x7))) w5)
 (R x4 w5)) : Cal 336 #[a0] w R :=
 cq ⟨[(3, ⟨[(8, .int .i64), (3, .int .i64)], [], []⟩)], [], []⟩ Tryz.func336 h
theorem store_Write.vc {a1 : Sl} (h :
 Br (a0 < 1)
 (R (Value.tuple #[.slice none 0 0, (1:Int)]) w)
 (Br (a0 > 1073741824)
 (R (Value.tuple #[.slice none 0 0, (1:Int)]) w)
 (Br (decide ((((a1.n : Nat) : Int) : Int) > 65536))
 (R (Value.tuple #[.slice none 0 0, (1:Int)]) w)
 (Cal 342 #[.slice none 0 0, a0, (4:Int)] w (fun e w0 => ∃ (s1 : Sl), e = s1 ∧
 Cal 342 #[s1, ((a1.n : Nat) : Int), (3:Int)] w0 (fun e w2 => ∃ (s3 : Sl), e = s3 ∧
 Aw w2 #[s3, a1] 43 fun w4 =>
 Cal 344 #[.slice (pzq w2) 2 2] w4 (fun e w5 => ∃ (s6 : Sl), e = s6 ∧
 Cal 343 #[s6] w5 (fun e w7 => ∃ (s8 : Sl), e = s8 ∧
 R (Value.tuple #[s8, vzz]) w7)))))))) : Cal 292 #[a0, a1] w R :=
 cq an0 Tryz.func292 h
theorem store_Store_Save.vc {a0 : Addr} {a2 : Sl} (h :
 Cal 230 #[a1] w (fun e w0 => ∃ (b1 : Bool), e = b1 ∧
 Br (!b1)
 (R (1:Int) w0)
 (Cal 231 #[a0, a1] w0 (fun e w2 => ∃ (x3 x4 : Int) (s5 : Sl), e = Value.agg #[x3, x4, s5] ∧
 Aw w2 #[vzz, vzz, .slice none 0 0] 276 fun w6 =>
 Sw w6 w2 #[x3, x4, s5] fun w7 =>
 Cal 292 #[(wqq (x4 + 1)), a2] w7 (fun e w8 => ∃ (s9 : Sl) (x10 : Int), e = Value.tuple #[s9, x10] ∧ Kp w2 w7 w8 ∧
 Br (x10 != 0)
 (R x10 w8)
 (∃ (p11 : Option Addr), ld w8.drew (padd (padd (some a0) 0) 0) = some (.pointer p11) ∧
 Cal 293 #[p11, (bXor .i64 x3 1), s9] w8.drew (Ri fun x13 w12 => Kp w2 w8.drew w12 ∧
 LoadL w12 (pzq w2) 0 [x3] ∧ Br (x13 != 0)
 (R x13 w12)
 (∃ (p14 : Option Addr), ld w12 (padd (padd (some a0) 0) 0) = some (.pointer p14) ∧
 Cal 294 #[p14] w12 (Ri fun x16 w15 => Kp w2 w12 w15 ∧
 R x16 w15))))))))) : Cal 235 #[a0, a1, a2] w R :=
 cq an0 Tryz.func235 h
theorem store_Store_ofb.vc {a0 : Addr} (h :
 Aw w #[vzz, vzz, .slice none 0 0] 276 fun w0 =>
 Aw w0 #[vzz, vzz, .slice none 0 0] 276 fun w1 =>
 Sw w1 w0 #[(wqq ((wqq (2 * a1)) + 1)), vzz, .slice none 0 0] fun w2 =>
 ∃ I3 : Nat → Int → Int → Int → Sl → World → Prop,
 (∃ n4, EqL [vzz, vzz, .slice none 0 0] ∧ I3 n4 (0) ((wqq ((wqq (2 * a1)) + 1))) (0) ⟨none, 0, 0⟩ w2) ∧
 ∀ (n4 : Nat) (us5 : Nat → Value) (x6 x7 x8 : Int) (s9 : Sl) (w10 : World), I3 n4 x6 x7 x8 s9 w10 →
 Br (x6 < 2)
 (((0 : Int) ≤ x6 ∧ x6 < ((2 : Nat) : Int)) ∧ ∃ (x12 : Int), ([(wqq (2 * a1)), (wqq ((wqq (2 * a1)) + 1))] : LV)[(x6 : Int).toNat * 1]? = some (.int .i64 x12) ∧
 ∃ (p13 : Option Addr), ld w10 (padd (padd (some a0) 0) 0) = some (.pointer p13) ∧
 Cal 284 #[p13, x12] w10 (fun e w14 => ∃ (s15 : Sl) (b16 : Bool), e = Value.tuple #[s15, b16] ∧ K2 w w0 w10 w14 (
 Cal 285 #[s15] w14 (fun e w17 => ∃ (x18 : Int) (s19 : Sl) (x20 : Int), e = Value.tuple #[x18, s19, x20] ∧ K2 w w0 w14 w17 (
 Br (x20 == 0)
 (Br (x18 > x8)
 (Sw w17 w0 #[x12, x18, s19] fun w21 =>
 ∃ n11, n11 < n4 ∧ EqL [vzz, vzz, .slice none 0 0] ∧ I3 n11 ((wqq (x6 + 1))) x12 x18 s19 w21)
 (∃ n11, n11 < n4 ∧ EqL [vzz, vzz, .slice none 0 0] ∧ I3 n11 ((wqq (x6 + 1))) x7 x8 s9 w17))
 (∃ n11, n11 < n4 ∧ EqL [vzz, vzz, .slice none 0 0] ∧ I3 n11 ((wqq (x6 + 1))) x7 x8 s9 w17))))))
 (Sw w10 w #[x7, x8, s9] fun w22 =>
 R (Value.agg #[x7, x8, s9]) w22)) : Cal 231 #[a0, a1] w R :=
 cq ⟨[(3, ⟨[(23, .int .i64)], [(1, [.int .i64, .int .i64, .slice])], []⟩)], [], []⟩ Tryz.func231 h
theorem crc_Put.vc {a0 : Sl} (h :
 Cal 373 #[a0] w (fun e w0 => ∃ (x1 : Int), e = Value.int .u16 x1 ∧
 Cal 374 #[.int .u16 x1] w0 (fun e w2 => ∃ (x3 x4 : Int), e = Value.agg #[.int .u8 x3, .int .u8 x4] ∧
 Aw w2 #[.int .u8 0, .int .u8 0] 396 fun w5 =>
 Wt w5 ⟨w2, 0, none⟩ 2 ∧ (∀ w6, w6 = setP w5 (pzq w2) [.int .u8 x3, .int .u8 x4] →
 Aw w6 #[a0, .slice (slBase (pzq w2) (0) (2) 1) (2 - 0) (2 - 0)] 43 fun w7 =>
 Cal 344 #[.slice (pzq w6) 2 2] w7 (fun e w8 => ∃ (s9 : Sl), e = s9 ∧
 R s9 w8))))) : Cal 343 #[a0] w R :=
 cq an0 Tryz.func343 h
theorem crc_Good.vc {a0 : Sl} (h :
 Br (decide ((((a0.n : Nat) : Int) : Int) ≥ 2))
 (Cal 373 #[a0] w (fun e w0 => ∃ (x1 : Int), e = Value.int .u16 x1 ∧
 R (Value.bool (x1 == 0)) w0))
 (R false w)) : Cal 370 #[a0] w R :=
 cq an0 Tryz.func370 h
theorem crc_Of.vc {a0 : Sl} (h :
 Cal 387 #[] w (fun e w0 => ∃ (x1 : Int), e = Value.int .u16 x1 ∧
 Cal 388 #[.int .u16 x1, a0] w0 (fun e w2 => ∃ (x3 : Int), e = Value.int .u16 x3 ∧
 R (Value.int .u16 x3) w2))) : Cal 373 #[a0] w R :=
 cq an0 Tryz.func373 h
theorem crc_Check_Bytes.vc (h :
 Aw w #[.int .u8 0, .int .u8 0] 396 fun w0 =>
 Wt w0 ⟨w, 0, none⟩ 2 ∧ (∀ w1, w1 = setP w0 w [.int .u8 (w8q ((a0 : Int).fdiv (2 ^ (min (8 : Int).toNat 16)))), .int .u8 (w8q a0)] →
 ∃ (x2 x3 : Int), LoadL w1 w 0 [.int .u8 x2, .int .u8 x3] ∧
 R (Value.agg #[.int .u8 x2, .int .u8 x3]) w1)) : Cal 374 #[.int .u16 a0] w R :=
 cq an0 Tryz.func374 h
theorem crc_Start.vc (h :
 R (Value.int .u16 65535) w) : Cal 387 #[] w R :=
 cq an0 Tryz.func387 h
theorem crc_Check_With.vc {a1 : Sl} (h :
 Cal 394 #[] w (fun e w0 => ∃ (x1 x2 x3 x4 x5 x6 x7 x8 x9 x10 x11 x12 x13 x14 x15 x16 : Int), e = Value.agg #[.int .u16 x1, .int .u16 x2, .int .u16 x3, .int .u16 x4, .int .u16 x5, .int .u16 x6, .int .u16 x7, .int .u16 x8, .int .u16 x9, .int .u16 x10, .int .u16 x11, .int .u16 x12, .int .u16 x13, .int .u16 x14, .int .u16 x15, .int .u16 x16] ∧
 Aw w0 #[.int .u16 0, .int .u16 0, .int .u16 0, .int .u16 0, .int .u16 0, .int .u16 0, .int .u16 0, .int .u16 0, .int .u16 0, .int .u16 0, .int .u16 0, .int .u16 0, .int .u16 0, .int .u16 0, .int .u16 0, .int .u16 0] 417 fun w17 =>
 Wt w17 ⟨w0, 0, none⟩ 16 ∧ (∀ w18, w18 = setP w17 (pzq w0) [.int .u16 x1, .int .u16 x2, .int .u16 x3, .int .u16 x4, .int .u16 x5, .int .u16 x6, .int .u16 x7, .int .u16 x8, .int .u16 x9, .int .u16 x10, .int .u16 x11, .int .u16 x12, .int .u16 x13, .int .u16 x14, .int .u16 x15, .int .u16 x16] →
 ∃ I19 : Nat → Int → Int → World → Prop,
 (∃ n20, I19 n20 (0) a0 w18) ∧
 ∀ (n20 : Nat) (us21 : Nat → Value) (x22 x23 : Int) (w24 : World), I19 n20 x22 x23 w24 →
 Br (decide (x22 < ((a1.n : Nat) : Int)))
 (InB a1.a x22 a1.n ∧ ∃ (x26 : Int), ld w24 (padd a1.a ((x22 : Int).toNat * 1)) = some (.int .u8 x26) ∧
 (0 : Int) ≤ (bXor .u16 ((x23 : Int).fdiv (2 ^ (min (12 : Int).toNat 16))) (w16q ((x26 : Int).fdiv (2 ^ (min (4 : Int).toNat 8))))) ∧ ((bXor .u16 ((x23 : Int).fdiv (2 ^ (min (12 : Int).toNat 16))) (w16q ((x26 : Int).fdiv (2 ^ (min (4 : Int).toNat 8))))) : Int) < ((16 : Nat) : Int) ∧ ∃ (x27 : Int), ld w24 (padd (pzq w0) (((bXor .u16 ((x23 : Int).fdiv (2 ^ (min (12 : Int).toNat 16))) (w16q ((x26 : Int).fdiv (2 ^ (min (4 : Int).toNat 8))))) : Int).toNat * 1)) = some (.int .u16 x27) ∧
 (0 : Int) ≤ (bXor .u16 (((bXor .u16 (w16q (x23 * 2 ^ (min (4 : Int).toNat 16))) x27) : Int).fdiv (2 ^ (min (12 : Int).toNat 16))) (w16q (bAnd .u8 x26 15))) ∧ ((bXor .u16 (((bXor .u16 (w16q (x23 * 2 ^ (min (4 : Int).toNat 16))) x27) : Int).fdiv (2 ^ (min (12 : Int).toNat 16))) (w16q (bAnd .u8 x26 15))) : Int) < ((16 : Nat) : Int) ∧ ∃ (x28 : Int), ld w24 (padd (pzq w0) (((bXor .u16 (((bXor .u16 (w16q (x23 * 2 ^ (min (4 : Int).toNat 16))) x27) : Int).fdiv (2 ^ (min (12 : Int).toNat 16))) (w16q (bAnd .u8 x26 15))) : Int).toNat * 1)) = some (.int .u16 x28) ∧
 ∃ n25, n25 < n20 ∧ I19 n25 ((wqq (x22 + 1))) ((bXor .u16 (w16q ((bXor .u16 (w16q (x23 * 2 ^ (min (4 : Int).toNat 16))) x27) * 2 ^ (min (4 : Int).toNat 16))) x28)) w24)
 (R (Value.int .u16 x23) w24)))) : Cal 388 #[.int .u16 a0, a1] w R :=
 cq ⟨[(3, ⟨[(11, .int .i64), (0, .int .u16)], [], []⟩)], [], []⟩ Tryz.func388 h
theorem crc_steps.vc (h :
 Aw w #[.int .u16 0, .int .u16 0, .int .u16 0, .int .u16 0, .int .u16 0, .int .u16 0, .int .u16 0, .int .u16 0, .int .u16 0, .int .u16 0, .int .u16 0, .int .u16 0, .int .u16 0, .int .u16 0, .int .u16 0, .int .u16 0] 417 fun w0 =>
 Aw w0 #[.int .u16 0, .int .u16 0, .int .u16 0, .int .u16 0, .int .u16 0, .int .u16 0, .int .u16 0, .int .u16 0, .int .u16 0, .int .u16 0, .int .u16 0, .int .u16 0, .int .u16 0, .int .u16 0, .int .u16 0, .int .u16 0] 417 fun w1 =>
 ∃ I2 : Nat → Int → World → Prop,
 (∃ n3, I2 n3 (0) w1) ∧
 ∀ (n3 : Nat) (us4 : Nat → Value) (x5 : Int) (w6 : World), I2 n3 x5 w6 →
 Br (x5 < 16)
 (∃ I8 : Nat → Int → Int → World → Prop,
 (∃ n9, I8 n9 (0) ((w16q ((w16q x5) * 2 ^ (min (12 : Int).toNat 16)))) w6) ∧
 ∀ (n9 : Nat) (us10 : Nat → Value) (x11 x12 : Int) (w13 : World), I8 n9 x11 x12 w13 →
 Br (x11 < 4)
 (Cal 398 #[.int .u16 x12] w13 (fun e w15 => ∃ (x16 : Int), e = Value.int .u16 x16 ∧
 ∃ n14, n14 < n9 ∧ I8 n14 ((wqq (x11 + 1))) x16 w15))
 ((0 : Int) ≤ x5 ∧ x5 < ((16 : Nat) : Int) ∧ (true = true ∧ Wr w13 (padd (pzq w0) ((x5 : Int).toNat * 1)) 1) ∧ (∀ w17, w17 = setP w13 (padd (pzq w0) ((x5 : Int).toNat * 1)) [.int .u16 x12] →
 ∃ n7, n7 < n3 ∧ I2 n7 ((wqq (x5 + 1))) w17)))
 (∃ (x18 x19 x20 x21 x22 x23 x24 x25 x26 x27 x28 x29 x30 x31 x32 x33 : Int), LoadL w6 (pzq w0) 0 [.int .u16 x18, .int .u16 x19, .int .u16 x20, .int .u16 x21, .int .u16 x22, .int .u16 x23, .int .u16 x24, .int .u16 x25, .int .u16 x26, .int .u16 x27, .int .u16 x28, .int .u16 x29, .int .u16 x30, .int .u16 x31, .int .u16 x32, .int .u16 x33] ∧
 Wt w6 ⟨w, 0, none⟩ 16 ∧ (∀ w34, w34 = setP w6 w [.int .u16 x18, .int .u16 x19, .int .u16 x20, .int .u16 x21, .int .u16 x22, .int .u16 x23, .int .u16 x24, .int .u16 x25, .int .u16 x26, .int .u16 x27, .int .u16 x28, .int .u16 x29, .int .u16 x30, .int .u16 x31, .int .u16 x32, .int .u16 x33] →
 ∃ (x35 x36 x37 x38 x39 x40 x41 x42 x43 x44 x45 x46 x47 x48 x49 x50 : Int), LoadL w34 w 0 [.int .u16 x35, .int .u16 x36, .int .u16 x37, .int .u16 x38, .int .u16 x39, .int .u16 x40, .int .u16 x41, .int .u16 x42, .int .u16 x43, .int .u16 x44, .int .u16 x45, .int .u16 x46, .int .u16 x47, .int .u16 x48, .int .u16 x49, .int .u16 x50] ∧
 R (Value.agg #[.int .u16 x35, .int .u16 x36, .int .u16 x37, .int .u16 x38, .int .u16 x39, .int .u16 x40, .int .u16 x41, .int .u16 x42, .int .u16 x43, .int .u16 x44, .int .u16 x45, .int .u16 x46, .int .u16 x47, .int .u16 x48, .int .u16 x49, .int .u16 x50]) w34))) : Cal 394 #[] w R :=
 cq ⟨[(8, ⟨[(11, .int .i64), (4, .int .u16)], [], []⟩), (4, ⟨[(5, .int .i64)], [], []⟩)], [], []⟩ Tryz.func394 h
theorem crc_steps_1.vc (h :
 Br (((bAnd .u16 a0 32768) : Int) != 0)
 (R (Value.int .u16 (bXor .u16 (w16q (a0 * 2 ^ (min (1 : Int).toNat 16))) 4129)) w)
 (R (Value.int .u16 (w16q (a0 * 2 ^ (min (1 : Int).toNat 16)))) w)) : Cal 398 #[.int .u16 a0] w R :=
 cq an0 Tryz.func398 h
theorem slices_Concat_byte.vc {a0 : Sl} (h :
 ∃ I0 : Nat → Int → Int → World → Prop,
 (∃ n1, I0 n1 (0) (0) w) ∧
 ∀ (n1 : Nat) (us2 : Nat → Value) (x3 x4 : Int) (w5 : World), I0 n1 x3 x4 w5 →
 Br (decide (x3 < ((a0.n : Nat) : Int)))
 (InB a0.a x3 a0.n ∧ ∃ (s7 : Sl), ld w5 (padd a0.a ((x3 : Int).toNat * 1)) = some (.slice s7.a s7.n s7.c) ∧
 Br (decide (((wqq (x4 + ((s7.n : Nat) : Int))) : Int) < 0))
 (False)
 (∃ n6, n6 < n1 ∧ I0 n6 ((wqq (x3 + 1))) ((wqq (x4 + ((s7.n : Nat) : Int)))) w5))
 (Cal 375 #[.slice none 0 0, x4] w5 (fun e w8 => ∃ (s9 : Sl), e = s9 ∧
 ∃ I10 : Nat → Int → Sl → World → Prop,
 (∃ n11, I10 n11 (0) s9 w8) ∧
 ∀ (n11 : Nat) (us12 : Nat → Value) (x13 : Int) (s14 : Sl) (w15 : World), I10 n11 x13 s14 w15 →
 Br (decide (x13 < ((a0.n : Nat) : Int)))
 (InB a0.a x13 a0.n ∧ ∃ (s17 : Sl), ld w15 (padd a0.a ((x13 : Int).toNat * 1)) = some (.slice s17.a s17.n s17.c) ∧
 ∃ l18 : LV, Rd w15 s17.a l18 ∧ AppPre 1 1 w15 s14 s17.n l18 ∧ ∀ (s19 : Sl) (w20 : World), AppRes 5 1 w15 s14 s17.n l18 s19 w20 →
 ∃ n16, n16 < n11 ∧ I10 n16 ((wqq (x13 + 1))) s19 w20)
 (R s14 w15)))) : Cal 344 #[a0] w R :=
 cq ⟨[(11, ⟨[(27, .int .i64), (6, .slice)], [], []⟩), (3, ⟨[(11, .int .i64), (3, .int .i64)], [], []⟩)], [], []⟩ Tryz.func344 h
theorem slices_Grow_byte.vc {a0 : Sl} (h :
 Br (a1 < 0)
 (False)
 (Br (decide (((wqq (a1 - (wqq (((a0.c : Nat) : Int) - ((a0.n : Nat) : Int))))) : Int) > 0))
 ((0 : Int) ≤ ((a0.c : Nat) : Int) ∧ ((a0.c : Nat) : Int) ≤ ((a0.c : Nat) : Int) ∧ ((0 : Int) ≤ (wqq (a1 - (wqq (((a0.c : Nat) : Int) - ((a0.n : Nat) : Int))))) ∧ wqq (wqq (a1 - (wqq (((a0.c : Nat) : Int) - ((a0.n : Nat) : Int))))) = (wqq (a1 - (wqq (((a0.c : Nat) : Int) - ((a0.n : Nat) : Int))))) ∧ ((wqq (a1 - (wqq (((a0.c : Nat) : Int) - ((a0.n : Nat) : Int))))) : Int) * 1 ≤ 281474976710656) ∧ AppPre 1 1 w ⟨(slBase a0.a (0) (a0.c) 1), ((((a0.c : Nat) : Int) : Int).toNat - 0), (a0.c - 0)⟩ ((wqq (a1 - (wqq (((a0.c : Nat) : Int) - ((a0.n : Nat) : Int))))) : Int).toNat (zeroRows [.int .u8 0] ((wqq (a1 - (wqq (((a0.c : Nat) : Int) - ((a0.n : Nat) : Int))))) : Int).toNat) ∧ ∀ (s0 : Sl) (w1 : World), AppRes 5 1 w ⟨(slBase a0.a (0) (a0.c) 1), ((((a0.c : Nat) : Int) : Int).toNat - 0), (a0.c - 0)⟩ ((wqq (a1 - (wqq (((a0.c : Nat) : Int) - ((a0.n : Nat) : Int))))) : Int).toNat (zeroRows [.int .u8 0] ((wqq (a1 - (wqq (((a0.c : Nat) : Int) - ((a0.n : Nat) : Int))))) : Int).toNat) s0 w1 →
 (0 : Int) ≤ ((a0.n : Nat) : Int) ∧ ((a0.n : Nat) : Int) ≤ ((s0.c : Nat) : Int) ∧ R (Value.slice (slBase s0.a (0) (s0.c) 1) ((((a0.n : Nat) : Int) : Int).toNat - 0) (s0.c - 0)) w1)
 (R a0 w))) : Cal 375 #[a0, a1] w R :=
 cq an0 Tryz.func375 h
theorem disk_Disk_Left.vc {a0 : Addr} (h :
 ∃ (s0 : Sl), ld w (padd (some a0) 4) = some (.slice s0.a s0.n s0.c) ∧
 ∃ I1 : Nat → Int → Int → World → Prop,
 (∃ n2, I1 n2 (0) (0) w) ∧
 ∀ (n2 : Nat) (us3 : Nat → Value) (x4 x5 : Int) (w6 : World), I1 n2 x4 x5 w6 →
 Br (decide (x4 < ((s0.n : Nat) : Int)))
 (InB s0.a x4 s0.n ∧ ∃ (x8 : Int) (s9 : Sl), LoadL w6 (padd s0.a ((x4 : Int).toNat * 2)) 0 [x8, s9] ∧
 Aw w6 #[vzz, .slice none 0 0] 337 fun w10 =>
 Sw w10 w6 #[x8, s9] fun w11 =>
 ∃ n7, n7 < n2 ∧ I1 n7 ((wqq (x4 + 1))) ((wqq (x5 + ((s9.n : Nat) : Int)))) w11)
 (R x5 w6)) : Cal 303 #[a0] w R :=
 cq ⟨[(3, ⟨[(11, .int .i64), (3, .int .i64)], [], []⟩)], [], []⟩ Tryz.func303 h
theorem disk_Disk_Crash.vc {a0 : Addr} (h :
 Cal 303 #[a0] w (fun e w0 => ∃ (x1 : Int), e = x1 ∧
 Cal 303 #[a0] w0 (fun e w2 => ∃ (x3 : Int), e = x3 ∧
 ∃ (s4 : Sl), ld w2 (padd (some a0) 4) = some (.slice s4.a s4.n s4.c) ∧
 ∃ I5 : Nat → Int → Int → World → Prop,
 (∃ n6, I5 n6 (0) ((if x1 < (if 0 > a1 then 0 else a1) then x1 else (if 0 > a1 then 0 else a1))) w2) ∧
 ∀ (n6 : Nat) (us7 : Nat → Value) (x8 x9 : Int) (w10 : World), I5 n6 x8 x9 w10 →
 Br (decide (x8 < ((s4.n : Nat) : Int)))
 (InB s4.a x8 s4.n ∧ ∃ (x12 : Int) (s13 : Sl), LoadL w10 (padd s4.a ((x8 : Int).toNat * 2)) 0 [x12, s13] ∧
 Aw w10 #[vzz, .slice none 0 0] 337 fun w14 =>
 Sw w14 w10 #[x12, s13] fun w15 =>
 ∃ (m16 : Option Nat), ld w15.drew (padd (some a0) 3) = some (.map m16) ∧
 (0 : Int) ≤ (if x9 < ((s13.n : Nat) : Int) then x9 else ((s13.n : Nat) : Int)) ∧ (if x9 < ((s13.n : Nat) : Int) then x9 else ((s13.n : Nat) : Int)) ≤ ((s13.c : Nat) : Int) ∧ ∃ (G17 : Value → Prop) (kvs18 : List (Value × Value)), KeyOk Tryz.prog 3 G17 ∧ (m16 : Option Nat).isSome = true ∧ MapIs G17 w15.drew m16 kvs18 ∧ G17 x12 ∧ ∀ w19 : World, Rec ((m16 : Option Nat).getD 0) w15.drew w19 → MapIs G17 w19 m16 (insL kvs18 x12 (.slice (slBase s13.a (0) (s13.c) 1) (((if x9 < ((s13.n : Nat) : Int) then x9 else ((s13.n : Nat) : Int)) : Int).toNat - 0) (s13.c - 0))) →
 Br (decide (((if x9 < ((s13.n : Nat) : Int) then x9 else ((s13.n : Nat) : Int)) : Int) < ((s13.n : Nat) : Int)))
 ((true = true ∧ Wr w19 (padd (some a0) 4) 1) ∧ pblk (padd (some a0) 4) ≠ some w10.heap.size ∧ (∀ w20, w20 = setP w19 (padd (some a0) 4) [.slice none 0 0] →
 (true = true ∧ Wr w20 (padd (some a0) 1) 1) ∧ pblk (padd (some a0) 1) ≠ some w10.heap.size ∧ (∀ w21, w21 = setP w20 (padd (some a0) 1) [vzz] →
 (true = true ∧ Wr w21 (padd (some a0) 2) 1) ∧ pblk (padd (some a0) 2) ≠ some w10.heap.size ∧ (∀ w22, w22 = setP w21 (padd (some a0) 2) [vzz] →
 R ((wqq (x3 - (if x1 < (if 0 > a1 then 0 else a1) then x1 else (if 0 > a1 then 0 else a1))))) w22))))
 (∃ n11, n11 < n6 ∧ I5 n11 ((wqq (x8 + 1))) ((wqq (x9 - (if x9 < ((s13.n : Nat) : Int) then x9 else ((s13.n : Nat) : Int))))) w19))
 ((true = true ∧ Wr w10 (padd (some a0) 4) 1) ∧ (∀ w23, w23 = setP w10 (padd (some a0) 4) [.slice none 0 0] →
 (true = true ∧ Wr w23 (padd (some a0) 1) 1) ∧ (∀ w24, w24 = setP w23 (padd (some a0) 1) [vzz] →
 (true = true ∧ Wr w24 (padd (some a0) 2) 1) ∧ (∀ w25, w25 = setP w24 (padd (some a0) 2) [vzz] →
 R ((wqq (x3 - (if x1 < (if 0 > a1 then 0 else a1) then x1 else (if 0 > a1 then 0 else a1))))) w25))))))) : Cal 247 #[a0, a1] w R :=
 cq ⟨[(4, ⟨[(23, .int .i64), (1, .int .i64)], [], []⟩)], [], []⟩ Tryz.func247 h
theorem table_Table_Flush.vc {a0 : Addr} (h :
 Aw w #[a1_0, a1_1] 139 fun w0 =>
 Cal 158 #[a0, .agg #[a1_0, a1_1]] w0 (Ri fun x2 w1 => Kp w w0 w1 ∧
 Br (x2 < 0)
 (R (6:Int) w1)
 (∃ (s3 : Sl), ld w1 (padd (some a0) 3) = some (.slice s3.a s3.n s3.c) ∧
 InB s3.a x2 s3.n ∧ ∃ (p4 : Option Addr), ld w1 (padd s3.a ((x2 : Int).toNat * 1)) = some (.pointer p4) ∧
 Cal 164 #[a0, p4] w1 (Ri fun x6 w5 => Kp w w1 w5 ∧
 R x6 w5)))) : Cal 90 #[a0, .agg #[a1_0, a1_1]] w R :=
 cq an0 Tryz.func90 h
theorem table_Table_Crash.vc {a0 : Addr} (h :
 (true = true ∧ Wr w (padd (some a0) 3) 1) ∧ (∀ w0, w0 = setP w (padd (some a0) 3) [.slice none 0 0] →
 ∃ (p1 : Option Addr), ld w0 (padd (some a0) 0) = some (.pointer p1) ∧
 AndL (nnC p1) (AndL (nnC p1) (AndL (nnC (padd p1 0)) (∃ (p2 : Option Addr), ld w0 (padd (padd p1 0) 0) = some (.pointer p2) ∧
 Cal 247 #[p2, a1] w0 (fun e w3 => ∃ (x4 : Int), e = x4 ∧
 R x4 w3)))))) : Cal 183 #[a0, a1] w R :=
 cq an0 Tryz.func183 h
theorem table_Table_Kept.vc {a0 : Addr} (h :
 ∃ (p0 : Option Addr), ld w (padd (some a0) 0) = some (.pointer p0) ∧
 Cal 161 #[p0, vzz] w (fun e w1 => ∃ (s2 : Sl) (x3 : Int) (b4 : Bool), e = Value.tuple #[s2, x3, b4] ∧
 R (Value.tuple #[s2, b4]) w1)) : Cal 184 #[a0] w R :=
 cq an0 Tryz.func184 h
theorem disk_Disk_Fail.vc {a0 : Addr} (h :
 (true = true ∧ Wr w (padd (some a0) 1) 1) ∧ (∀ w0, w0 = setP w (padd (some a0) 1) [a1] →
 (true = true ∧ Wr w0 (padd (some a0) 2) 1) ∧ (∀ w1, w1 = setP w0 (padd (some a0) 2) [vzz] →
 Br (a1 < 0)
 ((true = true ∧ Wr w1 (padd (some a0) 1) 1) ∧ (∀ w2, w2 = setP w1 (padd (some a0) 1) [(wqq (0 - (if (-1048576) > a1 then (-1048576) else a1)))] →
 (true = true ∧ Wr w2 (padd (some a0) 2) 1) ∧ (∀ w3, w3 = setP w2 (padd (some a0) 2) [(1:Int)] →
 R tqq w3)))
 (R tqq w1)))) : Cal 122 #[a0, a1] w R :=
 cq an0 Tryz.func122 h
end Go.Proofs.YtjcnjlaelhdjeaaGreatDoor
namespace Go.Proofs.YtjcnjlaelhdjeaaGreatDoor
open Go Go.Vc Go.RowKit Go.Proofs
set_option maxRecDepth 100000
set_option maxHeartbeats 8000000
set_option linter.unusedVariables false
variable {R : Ending → World → Prop} {w : World} {a0 a1 a2 a3 a4 a5 a6 a7 a8 a9 a0_0 a0_1 a0_2 a0_3 a0_4 a0_5 a0_6 a0_7 a0_8 a0_9 a1_0 a1_1 a1_2 a1_3 a1_4 a1_5 a1_6 a1_7 a1_8 a1_9 a2_0 a2_1 a2_2 a2_3 a2_4 a2_5 a2_6 a2_7 a2_8 a2_9 a3_0 a3_1 a3_2 a3_3 a3_4 a3_5 a3_6 a3_7 a3_8 a3_9 : Int}
theorem queue_New.vc (h :
 ∀ w0, w0 = w.alloc (.map #[] 0) →
 Aw w0 #[.int .i64 (if 4096 < (if 1 > a0 then 1 else a0) then 4096 else (if 1 > a0 then 1 else a0)), vzz, .slice none 0 0, .map (some w.heap.size)] 192 fun w1 =>
 R (Value.pointer (pzq w0)) w1) : Cal 174 #[a0] w R :=
 cq an0 Tryz.func174 h
theorem queue_Queue_Add.vc {a0 : Addr} (h :
 Aw w #[a1_0, a1_1, a1_2] 23 fun w0 =>
 Cal 273 #[a0, .agg #[a1_0, a1_1, a1_2]] w0 (fun e w1 => ∃ (x2 : Int) (b3 : Bool), e = Value.tuple #[x2, b3] ∧ Kp w w0 w1 ∧
 Br b3
 (Br (x2 ≤ a2)
 (R false w1)
 (Br b3
 (Cal 274 #[a0, .agg #[a1_0, a1_1, a1_2]] w1 (Rb fun b5 w4 => Kp w w1 w4 ∧
 Cal 275 #[a0, .agg #[a2, a1_0, a1_1, a1_2]] w4 (Rt fun w6 => Kp w w4 w6 ∧
 R true w6)))
 (∃ (s7 : Sl), ld w1.drew (padd (some a0) 2) = some (.slice s7.a s7.n s7.c) ∧
 ∃ (x8 : Int), ld w1.drew (padd (some a0) 0) = some (.int .i64 x8) ∧
 Br ((((s7.n : Nat) : Int) : Int) == x8)
 (∃ (x9 : Int), ld w1.drew (padd (some a0) 1) = some (.int .i64 x9) ∧
 (true = true ∧ Wr w1.drew (padd (some a0) 1) 1) ∧ pblk (padd (some a0) 1) ≠ some w.heap.size ∧ (∀ w10, w10 = setP w1.drew (padd (some a0) 1) [(wqq (x9 + 1))] →
 R false w10))
 (Cal 275 #[a0, .agg #[a2, a1_0, a1_1, a1_2]] w1.drew (Rt fun w11 => Kp w w1.drew w11 ∧
 R true w11)))))
 (Br b3
 (Cal 274 #[a0, .agg #[a1_0, a1_1, a1_2]] w1 (Rb fun b13 w12 => Kp w w1 w12 ∧
 Cal 275 #[a0, .agg #[a2, a1_0, a1_1, a1_2]] w12 (Rt fun w14 => Kp w w12 w14 ∧
 R true w14)))
 (∃ (s15 : Sl), ld w1.drew (padd (some a0) 2) = some (.slice s15.a s15.n s15.c) ∧
 ∃ (x16 : Int), ld w1.drew (padd (some a0) 0) = some (.int .i64 x16) ∧
 Br ((((s15.n : Nat) : Int) : Int) == x16)
 (∃ (x17 : Int), ld w1.drew (padd (some a0) 1) = some (.int .i64 x17) ∧
 (true = true ∧ Wr w1.drew (padd (some a0) 1) 1) ∧ pblk (padd (some a0) 1) ≠ some w.heap.size ∧ (∀ w18, w18 = setP w1.drew (padd (some a0) 1) [(wqq (x17 + 1))] →
 R false w18))
 (Cal 275 #[a0, .agg #[a2, a1_0, a1_1, a1_2]] w1.drew (Rt fun w19 => Kp w w1.drew w19 ∧
 R true w19)))))) : Cal 219 #[a0, .agg #[a1_0, a1_1, a1_2], a2] w R :=
 cq an0 Tryz.func219 h
theorem queue_Queue_At.vc {a0 : Addr} (h :
 Aw w #[a1_0, a1_1, a1_2] 23 fun w0 =>
 ∃ (m1 : Option Nat), ld w0.drew (padd (some a0) 3) = some (.map m1) ∧
 ∃ (G2 : Value → Prop) (kvs3 : List (Value × Value)), KeyOk Tryz.prog 23 G2 ∧ MapIs G2 w0.drew m1 kvs3 ∧ G2 (.agg #[a1_0, a1_1, a1_2]) ∧ ∃ (x4 : Int), ∃ b5 : Bool, Look kvs3 (.agg #[a1_0, a1_1, a1_2]) (0:Int) x4 b5 ∧
 R (Value.tuple #[x4, b5]) w0.drew) : Cal 273 #[a0, .agg #[a1_0, a1_1, a1_2]] w R :=
 cq an0 Tryz.func273 h
theorem queue_Queue_Drop.vc {a0 : Addr} (h :
 Aw w #[a1_0, a1_1, a1_2] 23 fun w0 =>
 ∃ (m1 : Option Nat), ld w0.drew (padd (some a0) 3) = some (.map m1) ∧
 ∃ (G2 : Value → Prop) (kvs3 : List (Value × Value)), KeyOk Tryz.prog 23 G2 ∧ MapIs G2 w0.drew m1 kvs3 ∧ G2 (.agg #[a1_0, a1_1, a1_2]) ∧ ∃ (x4 : Int), ∃ b5 : Bool, Look kvs3 (.agg #[a1_0, a1_1, a1_2]) (0:Int) x4 b5 ∧
 Br (!b5)
 (R false w0.drew)
 (∃ (m6 : Option Nat), ld w0.drew.drew (padd (some a0) 3) = some (.map m6) ∧
 ∃ (G7 : Value → Prop) (kvs8 : List (Value × Value)), KeyOk Tryz.prog 23 G7 ∧ (m6 : Option Nat).isSome = true ∧ MapIs G7 w0.drew.drew m6 kvs8 ∧ G7 (.agg #[a1_0, a1_1, a1_2]) ∧ ∀ w9 : World, Rec ((m6 : Option Nat).getD 0) w0.drew.drew w9 → MapIs G7 w9 m6 (delL kvs8 (.agg #[a1_0, a1_1, a1_2])) →
 ∃ (s10 : Sl), ld w9 (padd (some a0) 2) = some (.slice s10.a s10.n s10.c) ∧
 Cal 321 #[s10, .func (.func 322) #[] #[w]] w9 (fun e w11 => ∃ (s12 : Sl), e = s12 ∧
 (true = true ∧ Wr w11 (padd (some a0) 2) 1) ∧ (∀ w13, w13 = setP w11 (padd (some a0) 2) [s12] →
 R true w13)))) : Cal 274 #[a0, .agg #[a1_0, a1_1, a1_2]] w R :=
 cq an0 Tryz.func274 h
theorem queue_Queue_push.vc {a0 : Addr} (h :
 Aw w #[a1_0, a1_1, a1_2, a1_3] 106 fun w0 =>
 ∃ (s1 : Sl), ld w0.drew (padd (some a0) 2) = some (.slice s1.a s1.n s1.c) ∧
 Cal 323 #[s1, .agg #[a1_0, a1_1, a1_2, a1_3], .func (.func 324) #[] #[]] w0.drew (fun e w2 => ∃ (x3 : Int) (b4 : Bool), e = Value.tuple #[x3, b4] ∧ Kp w w0.drew w2 ∧
 ∃ (s5 : Sl), ld w2.drew (padd (some a0) 2) = some (.slice s5.a s5.n s5.c) ∧
 Aw w2.drew #[a1_0, a1_1, a1_2, a1_3] 106 fun w6 =>
 Cal 327 #[s5, x3, .slice (pzq w2.drew.heap.size) 1 1] w6 (Rs fun s8 w7 => Kp w w6 w7 ∧
 (true = true ∧ Wr w7 (padd (some a0) 2) 1) ∧ pblk (padd (some a0) 2) ≠ some w.heap.size ∧ (∀ w9, w9 = setP w7 (padd (some a0) 2) [s8] →
 ∃ (m10 : Option Nat), ld w9.drew (padd (some a0) 3) = some (.map m10) ∧
 ∃ (G11 : Value → Prop) (kvs12 : List (Value × Value)), KeyOk Tryz.prog 23 G11 ∧ (m10 : Option Nat).isSome = true ∧ MapIs G11 w9.drew m10 kvs12 ∧ G11 (.agg #[a1_1, a1_2, a1_3]) ∧ ∀ w13 : World, Rec ((m10 : Option Nat).getD 0) w9.drew w13 → MapIs G11 w13 m10 (insL kvs12 (.agg #[a1_1, a1_2, a1_3]) a1_0) →
 R tqq w13)))) : Cal 275 #[a0, .agg #[a1_0, a1_1, a1_2, a1_3]] w R :=
 cq an0 Tryz.func275 h
theorem queue_Queue_Put.vc {a0 : Addr} {a1 : Sl} (h :
 ∃ I0 : Nat → Int → Int → World → Prop,
 (∃ n1, I0 n1 (0) (0) w) ∧
 ∀ (n1 : Nat) (us2 : Nat → Value) (x3 x4 : Int) (w5 : World), I0 n1 x3 x4 w5 →
 Br (decide (x3 < ((a1.n : Nat) : Int)))
 (InB a1.a x3 a1.n ∧ ∃ (x7 x8 x9 x10 : Int), LoadL w5 (padd a1.a ((x3 : Int).toNat * 4)) 0 [x7, x8, x9, x10] ∧
 Aw w5 #[vzz, vzz, vzz, vzz] 106 fun w11 =>
 Sw w11 w5 #[x7, x8, x9, x10] fun w12 =>
 Cal 219 #[a0, .agg #[x8, x9, x10], x7] w12 (Rb fun b14 w13 => Kp w5 w12 w13 ∧
 Br b14
 (∃ n6, n6 < n1 ∧ I0 n6 ((wqq (x3 + 1))) ((wqq (x4 + 1))) w13)
 (∃ n6, n6 < n1 ∧ I0 n6 ((wqq (x3 + 1))) x4 w13)))
 (R x4 w5)) : Cal 249 #[a0, a1] w R :=
 cq ⟨[(3, ⟨[(10, .int .i64), (5, .int .i64)], [], []⟩)], [], []⟩ Tryz.func249 h
theorem slices_DeleteFunc_Item.vc {a0 : Sl} {a1 : Value} (h :
 Cal 360 #[a0, a1] w (fun e w0 => ∃ (x1 : Int), e = x1 ∧
 Br (x1 == (-1))
 (R a0 w0)
 (∃ I2 : Nat → Int → Int → World → Prop,
 (∃ n3, I2 n3 ((wqq (x1 + 1))) x1 w0) ∧
 ∀ (n3 : Nat) (us4 : Nat → Value) (x5 x6 : Int) (w7 : World), I2 n3 x5 x6 w7 →
 Br (decide (x5 < ((a0.n : Nat) : Int)))
 (InB a0.a x5 a0.n ∧ ∃ (x9 x10 x11 x12 : Int), LoadL w7 (padd a0.a ((x5 : Int).toNat * 4)) 0 [x9, x10, x11, x12] ∧
 Aw w7 #[vzz, vzz, vzz, vzz] 106 fun w13 =>
 Sw w13 w7 #[x9, x10, x11, x12] fun w14 =>
 callV Tryz.prog a1 [.agg #[x9, x10, x11, x12]] w14 (Rb fun b16 w15 => Kp w7 w14 w15 ∧
 Br (!b16)
 (InB a0.a x6 a0.n ∧ (((padd a0.a ((x6 : Int).toNat * 4))).isSome = true ∧ Wr w15 (padd a0.a ((x6 : Int).toNat * 4)) 4) ∧ pblk (padd a0.a ((x6 : Int).toNat * 4)) ≠ some w7.heap.size ∧ (∀ w17, w17 = setP w15 (padd a0.a ((x6 : Int).toNat * 4)) [x9, x10, x11, x12] →
 ∃ n8, n8 < n3 ∧ I2 n8 ((wqq (x5 + 1))) ((wqq (x6 + 1))) w17))
 (∃ n8, n8 < n3 ∧ I2 n8 ((wqq (x5 + 1))) x6 w15)))
 ((0 : Int) ≤ x6 ∧ x6 ≤ ((a0.n : Nat) : Int) ∧ Wr w7 (slBase a0.a ((x6 : Int).toNat) (a0.c) 4) ((a0.n - (x6 : Int).toNat) * 4) ∧ (∀ w18, w18 = setP w7 (slBase a0.a ((x6 : Int).toNat) (a0.c) 4) (zeroRows [vzz, vzz, vzz, vzz] (a0.n - (x6 : Int).toNat)) →
 (0 : Int) ≤ x6 ∧ x6 ≤ ((a0.c : Nat) : Int) ∧ R (Value.slice (slBase a0.a (0) (a0.c) 4) ((x6 : Int).toNat - 0) (a0.c - 0)) w18))))) : Cal 321 #[a0, a1] w R :=
 cq ⟨[(5, ⟨[(6, .int .i64), (5, .int .i64)], [], []⟩)], [], []⟩ Tryz.func321 h
theorem queue_Queue_Drop_1.vc {c0 : Addr} (h :
 Aw w #[a0_0, a0_1, a0_2, a0_3] 106 fun w0 =>
 ∃ (x1 x2 x3 : Int), LoadL w0 (some c0) 0 [x1, x2, x3] ∧
 R (Value.bool ((a0_1 == x1) && ((a0_2 == x2) && (a0_3 == x3)))) w0) : Cal 322 #[.agg #[a0_0, a0_1, a0_2, a0_3], c0] w R :=
 cq an0 Tryz.func322 h
theorem slices_BinarySearchFunc_Item.vc {a0 : Sl} {a2 : Value} (h :
 Aw w #[a1_0, a1_1, a1_2, a1_3] 106 fun w0 =>
 ∃ I1 : Nat → Int → Int → World → Prop,
 (∃ n2, EqL [a1_0, a1_1, a1_2, a1_3] ∧ I1 n2 (0) (((a0.n : Nat) : Int)) w0) ∧
 ∀ (n2 : Nat) (us3 : Nat → Value) (x4 x5 : Int) (w6 : World), I1 n2 x4 x5 w6 →
 Br (x4 < x5)
 (InB a0.a (wqq (((w64q (wqq (x4 + x5))) : Int).fdiv (2 ^ (min (1 : Int).toNat 64)))) a0.n ∧ ∃ (x8 x9 x10 x11 : Int), LoadL w6.drew (padd a0.a (((wqq (((w64q (wqq (x4 + x5))) : Int).fdiv (2 ^ (min (1 : Int).toNat 64)))) : Int).toNat * 4)) 0 [x8, x9, x10, x11] ∧
 callV Tryz.prog a2 [.agg #[x8, x9, x10, x11], .agg #[a1_0, a1_1, a1_2, a1_3]] w6.drew (Ri fun x13 w12 => Kp w w6.drew w12 ∧
 Br (x13 < 0)
 (∃ n7, n7 < n2 ∧ EqL [a1_0, a1_1, a1_2, a1_3] ∧ I1 n7 ((wqq ((wqq (((w64q (wqq (x4 + x5))) : Int).fdiv (2 ^ (min (1 : Int).toNat 64)))) + 1))) x5 w12)
 (∃ n7, n7 < n2 ∧ EqL [a1_0, a1_1, a1_2, a1_3] ∧ I1 n7 x4 ((wqq (((w64q (wqq (x4 + x5))) : Int).fdiv (2 ^ (min (1 : Int).toNat 64))))) w12)))
 (Br (decide (x4 < ((a0.n : Nat) : Int)))
 (InB a0.a x4 a0.n ∧ ∃ (x14 x15 x16 x17 : Int), LoadL w6.drew (padd a0.a ((x4 : Int).toNat * 4)) 0 [x14, x15, x16, x17] ∧
 callV Tryz.prog a2 [.agg #[x14, x15, x16, x17], .agg #[a1_0, a1_1, a1_2, a1_3]] w6.drew (Ri fun x19 w18 => Kp w w6.drew w18 ∧
 R (Value.tuple #[x4, .bool (x19 == 0)]) w18))
 (R (Value.tuple #[x4, false]) w6.drew))) : Cal 323 #[a0, .agg #[a1_0, a1_1, a1_2, a1_3], a2] w R :=
 cq ⟨[(3, ⟨[(9, .int .i64), (10, .int .i64)], [], []⟩)], [], []⟩ Tryz.func323 h
theorem queue_Queue_push_1.vc (h :
 Aw w #[a0_0, a0_1, a0_2, a0_3] 106 fun w0 =>
 Aw w0 #[a1_0, a1_1, a1_2, a1_3] 106 fun w1 =>
 Cal 326 #[a0_0, a1_0] w1 (Ri fun x3 w2 => K2 w w0 w1 w2 (
 Aw w2 #[x3, (-1 : Int)] 3 fun w4 =>
 Cal 325 #[.slice (pzq w2) 2 2] w4 (Ri fun x6 w5 => K2 w w0 w4 w5 (
 R x6 w5))))) : Cal 324 #[.agg #[a0_0, a0_1, a0_2, a0_3], .agg #[a1_0, a1_1, a1_2, a1_3]] w R :=
 cq an0 Tryz.func324 h
theorem cmp_Or_int.vc {a0 : Sl} (h :
 ∃ I0 : Nat → Int → World → Prop,
 (∃ n1, I0 n1 (0) w) ∧
 ∀ (n1 : Nat) (us2 : Nat → Value) (x3 : Int) (w4 : World), I0 n1 x3 w4 →
 Br (decide (x3 < ((a0.n : Nat) : Int)))
 (InB a0.a x3 a0.n ∧ ∃ (x6 : Int), ld w4 (padd a0.a ((x3 : Int).toNat * 1)) = some (.int .i64 x6) ∧
 Br (x6 != 0)
 (R x6 w4)
 (∃ n5, n5 < n1 ∧ I0 n5 ((wqq (x3 + 1))) w4))
 (R (0:Int) w4)) : Cal 325 #[a0] w R :=
 cq ⟨[(3, ⟨[(8, .int .i64)], [], []⟩)], [], []⟩ Tryz.func325 h
theorem cmp_Compare_int.vc (h :
 Cal 361 #[a0] w (fun e w0 => ∃ (b1 : Bool), e = b1 ∧
 Cal 361 #[a1] w0 (fun e w2 => ∃ (b3 : Bool), e = b3 ∧
 Br b1
 (Br b3
 (R (0:Int) w2)
 (R (Value.int .i64 (-1)) w2))
 (Br b3
 (R (1:Int) w2)
 (Br (a0 < a1)
 (R (Value.int .i64 (-1)) w2)
 (Br (a0 > a1)
 (R (1:Int) w2)
 (R (0:Int) w2))))))) : Cal 326 #[a0, a1] w R :=
 cq an0 Tryz.func326 h
theorem slices_Insert_Item.vc {a0 : Sl} {a2 : Sl} (h :
 (0 : Int) ≤ a1 ∧ a1 ≤ ((a0.n : Nat) : Int) ∧ Br ((((a2.n : Nat) : Int) : Int) == 0)
 (R a0 w)
 (Br (a1 == ((a0.n : Nat) : Int))
 (∃ l0 : LV, Rd w a2.a l0 ∧ AppPre 32 4 w a0 a2.n l0 ∧ ∀ (s1 : Sl) (w2 : World), AppRes 106 4 w a0 a2.n l0 s1 w2 →
 R s1 w2)
 (Br (decide (((wqq (((a0.n : Nat) : Int) + ((a2.n : Nat) : Int))) : Int) > ((a0.c : Nat) : Int)))
 ((0 : Int) ≤ a1 ∧ a1 ≤ ((a0.c : Nat) : Int) ∧ ((0 : Int) ≤ (wqq ((wqq (((a0.n : Nat) : Int) + ((a2.n : Nat) : Int))) - a1)) ∧ wqq (wqq ((wqq (((a0.n : Nat) : Int) + ((a2.n : Nat) : Int))) - a1)) = (wqq ((wqq (((a0.n : Nat) : Int) + ((a2.n : Nat) : Int))) - a1)) ∧ ((wqq ((wqq (((a0.n : Nat) : Int) + ((a2.n : Nat) : Int))) - a1)) : Int) * 32 ≤ 281474976710656) ∧ AppPre 32 4 w ⟨(slBase a0.a (0) (a0.c) 4), ((a1 : Int).toNat - 0), (a0.c - 0)⟩ ((wqq ((wqq (((a0.n : Nat) : Int) + ((a2.n : Nat) : Int))) - a1)) : Int).toNat (zeroRows [vzz, vzz, vzz, vzz] ((wqq ((wqq (((a0.n : Nat) : Int) + ((a2.n : Nat) : Int))) - a1)) : Int).toNat) ∧ ∀ (s3 : Sl) (w4 : World), AppRes 106 4 w ⟨(slBase a0.a (0) (a0.c) 4), ((a1 : Int).toNat - 0), (a0.c - 0)⟩ ((wqq ((wqq (((a0.n : Nat) : Int) + ((a2.n : Nat) : Int))) - a1)) : Int).toNat (zeroRows [vzz, vzz, vzz, vzz] ((wqq ((wqq (((a0.n : Nat) : Int) + ((a2.n : Nat) : Int))) - a1)) : Int).toNat) s3 w4 →
 (0 : Int) ≤ a1 ∧ a1 ≤ ((s3.n : Nat) : Int) ∧ ∃ l5 : LV, (l5.length = min a2.n (s3.n - (a1 : Int).toNat) * 4 ∧ Rd w4 a2.a l5 ∧ One l5 ∧ Wr w4 (slBase s3.a ((a1 : Int).toNat) (s3.c) 4) l5.length) ∧ (∀ w6, w6 = setP w4 (slBase s3.a ((a1 : Int).toNat) (s3.c) 4) l5 →
 (0 : Int) ≤ (wqq (a1 + ((a2.n : Nat) : Int))) ∧ (wqq (a1 + ((a2.n : Nat) : Int))) ≤ ((s3.n : Nat) : Int) ∧ (0 : Int) ≤ a1 ∧ a1 ≤ ((a0.n : Nat) : Int) ∧ ∃ l7 : LV, (l7.length = min (a0.n - (a1 : Int).toNat) (s3.n - ((wqq (a1 + ((a2.n : Nat) : Int))) : Int).toNat) * 4 ∧ Rd w6.drew (slBase a0.a ((a1 : Int).toNat) (a0.c) 4) l7 ∧ One l7 ∧ Wr w6.drew (slBase s3.a (((wqq (a1 + ((a2.n : Nat) : Int))) : Int).toNat) (s3.c) 4) l7.length) ∧ (∀ w8, w8 = setP w6.drew (slBase s3.a (((wqq (a1 + ((a2.n : Nat) : Int))) : Int).toNat) (s3.c) 4) l7 →
 R s3 w8)))
 ((0 : Int) ≤ (wqq (((a0.n : Nat) : Int) + ((a2.n : Nat) : Int))) ∧ (wqq (((a0.n : Nat) : Int) + ((a2.n : Nat) : Int))) ≤ ((a0.c : Nat) : Int) ∧ (0 : Int) ≤ (wqq (a1 + ((a2.n : Nat) : Int))) ∧ (wqq (a1 + ((a2.n : Nat) : Int))) ≤ (((((wqq (((a0.n : Nat) : Int) + ((a2.n : Nat) : Int))) : Int).toNat - 0) : Nat) : Int) ∧ ExtC Tryz.prog 362 [a2, .slice (slBase (slBase a0.a (0) (a0.c) 4) (((wqq (a1 + ((a2.n : Nat) : Int))) : Int).toNat) ((a0.c - 0)) 4) ((((wqq (((a0.n : Nat) : Int) + ((a2.n : Nat) : Int))) : Int).toNat - 0) - ((wqq (a1 + ((a2.n : Nat) : Int))) : Int).toNat) ((a0.c - 0) - ((wqq (a1 + ((a2.n : Nat) : Int))) : Int).toNat)] w (fun e w9 => ∃ (b10 : Bool), e = b10 ∧
 Br (!b10)
 ((0 : Int) ≤ (wqq (a1 + ((a2.n : Nat) : Int))) ∧ (wqq (a1 + ((a2.n : Nat) : Int))) ≤ (((((wqq (((a0.n : Nat) : Int) + ((a2.n : Nat) : Int))) : Int).toNat - 0) : Nat) : Int) ∧ (0 : Int) ≤ a1 ∧ a1 ≤ (((((wqq (((a0.n : Nat) : Int) + ((a2.n : Nat) : Int))) : Int).toNat - 0) : Nat) : Int) ∧ ∃ l11 : LV, (l11.length = min ((((wqq (((a0.n : Nat) : Int) + ((a2.n : Nat) : Int))) : Int).toNat - 0) - (a1 : Int).toNat) ((((wqq (((a0.n : Nat) : Int) + ((a2.n : Nat) : Int))) : Int).toNat - 0) - ((wqq (a1 + ((a2.n : Nat) : Int))) : Int).toNat) * 4 ∧ Rd w9.drew (slBase (slBase a0.a (0) (a0.c) 4) ((a1 : Int).toNat) ((a0.c - 0)) 4) l11 ∧ One l11 ∧ Wr w9.drew (slBase (slBase a0.a (0) (a0.c) 4) (((wqq (a1 + ((a2.n : Nat) : Int))) : Int).toNat) ((a0.c - 0)) 4) l11.length) ∧ (∀ w12, w12 = setP w9.drew (slBase (slBase a0.a (0) (a0.c) 4) (((wqq (a1 + ((a2.n : Nat) : Int))) : Int).toNat) ((a0.c - 0)) 4) l11 →
 (0 : Int) ≤ a1 ∧ a1 ≤ (((((wqq (((a0.n : Nat) : Int) + ((a2.n : Nat) : Int))) : Int).toNat - 0) : Nat) : Int) ∧ ∃ l13 : LV, (l13.length = min a2.n ((((wqq (((a0.n : Nat) : Int) + ((a2.n : Nat) : Int))) : Int).toNat - 0) - (a1 : Int).toNat) * 4 ∧ Rd w12 a2.a l13 ∧ One l13 ∧ Wr w12 (slBase (slBase a0.a (0) (a0.c) 4) ((a1 : Int).toNat) ((a0.c - 0)) 4) l13.length) ∧ (∀ w14, w14 = setP w12 (slBase (slBase a0.a (0) (a0.c) 4) ((a1 : Int).toNat) ((a0.c - 0)) 4) l13 →
 R (Value.slice (slBase a0.a (0) (a0.c) 4) (((wqq (((a0.n : Nat) : Int) + ((a2.n : Nat) : Int))) : Int).toNat - 0) (a0.c - 0)) w14)))
 ((0 : Int) ≤ ((a0.n : Nat) : Int) ∧ ((a0.n : Nat) : Int) ≤ (((((wqq (((a0.n : Nat) : Int) + ((a2.n : Nat) : Int))) : Int).toNat - 0) : Nat) : Int) ∧ ∃ l15 : LV, (l15.length = min a2.n ((((wqq (((a0.n : Nat) : Int) + ((a2.n : Nat) : Int))) : Int).toNat - 0) - (((a0.n : Nat) : Int) : Int).toNat) * 4 ∧ Rd w9 a2.a l15 ∧ One l15 ∧ Wr w9 (slBase (slBase a0.a (0) (a0.c) 4) ((((a0.n : Nat) : Int) : Int).toNat) ((a0.c - 0)) 4) l15.length) ∧ (∀ w16, w16 = setP w9 (slBase (slBase a0.a (0) (a0.c) 4) ((((a0.n : Nat) : Int) : Int).toNat) ((a0.c - 0)) 4) l15 →
 (0 : Int) ≤ a1 ∧ a1 ≤ (((((wqq (((a0.n : Nat) : Int) + ((a2.n : Nat) : Int))) : Int).toNat - 0) : Nat) : Int) ∧ Cal 363 #[.slice (slBase (slBase a0.a (0) (a0.c) 4) ((a1 : Int).toNat) ((a0.c - 0)) 4) ((((wqq (((a0.n : Nat) : Int) + ((a2.n : Nat) : Int))) : Int).toNat - 0) - (a1 : Int).toNat) ((a0.c - 0) - (a1 : Int).toNat), ((a2.n : Nat) : Int)] w16 (fun e w17 => e = tqq ∧
 R (Value.slice (slBase a0.a (0) (a0.c) 4) (((wqq (((a0.n : Nat) : Int) + ((a2.n : Nat) : Int))) : Int).toNat - 0) (a0.c - 0)) w17)))))))) : Cal 327 #[a0, a1, a2] w R :=
 cq an0 Tryz.func327 h
theorem slices_IndexFunc_Item.vc {a0 : Sl} {a1 : Value} (h :
 ∃ I0 : Nat → Int → World → Prop,
 (∃ n1, I0 n1 (0) w) ∧
 ∀ (n1 : Nat) (us2 : Nat → Value) (x3 : Int) (w4 : World), I0 n1 x3 w4 →
 Br (decide (x3 < ((a0.n : Nat) : Int)))
 (InB a0.a x3 a0.n ∧ ∃ (x6 x7 x8 x9 : Int), LoadL w4 (padd a0.a ((x3 : Int).toNat * 4)) 0 [x6, x7, x8, x9] ∧
 callV Tryz.prog a1 [.agg #[x6, x7, x8, x9]] w4 (fun e w10 => ∃ (b11 : Bool), e = b11 ∧
 Br b11
 (R x3 w10)
 (∃ n5, n5 < n1 ∧ I0 n5 ((wqq (x3 + 1))) w10)))
 (R (Value.int .i64 (-1)) w4)) : Cal 360 #[a0, a1] w R :=
 cq ⟨[(2, ⟨[(8, .int .i64)], [], []⟩)], [], []⟩ Tryz.func360 h
theorem cmp_isNaN_int.vc (h :
 R (Value.bool (a0 != a0)) w) : Cal 361 #[a0] w R :=
 cq an0 Tryz.func361 h
end Go.Proofs.YtjcnjlaelhdjeaaGreatDoor
namespace Go.Proofs.YtjcnjlaelhdjeaaGreatDoor
open Go Go.Vc Go.RowKit Go.Proofs
set_option maxRecDepth 100000
set_option maxHeartbeats 8000000
set_option linter.unusedVariables false
variable {R : Ending → World → Prop} {w : World} {a0 a1 a2 a3 a4 a5 a6 a7 a8 a9 a0_0 a0_1 a0_2 a0_3 a0_4 a0_5 a0_6 a0_7 a0_8 a0_9 a1_0 a1_1 a1_2 a1_3 a1_4 a1_5 a1_6 a1_7 a1_8 a1_9 a2_0 a2_1 a2_2 a2_3 a2_4 a2_5 a2_6 a2_7 a2_8 a2_9 a3_0 a3_1 a3_2 a3_3 a3_4 a3_5 a3_6 a3_7 a3_8 a3_9 : Int}
theorem cell_Cut.vc (h :
 Aw w #[a0_0, a0_1, a0_2] 23 fun w0 =>
 Aw w0 #[vzz, vzz, vzz] 23 fun w1 =>
 Cal 281 #[a0_0] w1.drew (Ri fun x3 w2 => K2 w w0 w1.drew w2 (
 LoadL w2 (pnq w 2) 0 [a0_2] ∧ LoadL w2 (pnq w 1) 0 [a0_1] ∧ Cal 281 #[a0_1] w2 (Ri fun x5 w4 => K2 w w0 w2 w4 (
 LoadL w4 (pnq w 2) 0 [a0_2] ∧ Cal 281 #[a0_2] w4 (Ri fun x7 w6 => K2 w w0 w4 w6 (
 Sw w6 w0 #[x3, x5, x7] fun w8 =>
 R (Value.agg #[x3, x5, x7]) w8))))))) : Cal 280 #[.agg #[a0_0, a0_1, a0_2]] w R :=
 cq an0 Tryz.func280 h
theorem cell_cut.vc (h :
 R (Value.int .i64 (if 2147483648 < (if (-2147483648) > a0 then (-2147483648) else a0) then 2147483648 else (if (-2147483648) > a0 then (-2147483648) else a0))) w) : Cal 281 #[a0] w R :=
 cq an0 Tryz.func281 h
theorem cell_Near.vc (h :
 Aw w #[a0_0, a0_1, a0_2] 23 fun w0 =>
 Aw w0 #[vzz, vzz, vzz, vzz, vzz, vzz, vzz, vzz, vzz, vzz, vzz, vzz, vzz, vzz, vzz, vzz, vzz, vzz] 266 fun w1 =>
 Cal 279 #[(-1 : Int), vzz, vzz, w] w1 (fun e w2 => ∃ (x3 x4 x5 : Int), e = Value.agg #[x3, x4, x5] ∧
 Cal 279 #[(1:Int), vzz, vzz, w] w2 (fun e w6 => ∃ (x7 x8 x9 : Int), e = Value.agg #[x7, x8, x9] ∧
 Cal 279 #[vzz, (-1 : Int), vzz, w] w6 (fun e w10 => ∃ (x11 x12 x13 : Int), e = Value.agg #[x11, x12, x13] ∧
 Cal 279 #[vzz, (1:Int), vzz, w] w10 (fun e w14 => ∃ (x15 x16 x17 : Int), e = Value.agg #[x15, x16, x17] ∧
 Cal 279 #[vzz, vzz, (-1 : Int), w] w14 (fun e w18 => ∃ (x19 x20 x21 : Int), e = Value.agg #[x19, x20, x21] ∧
 Cal 279 #[vzz, vzz, (1:Int), w] w18 (fun e w22 => ∃ (x23 x24 x25 : Int), e = Value.agg #[x23, x24, x25] ∧
 Wt w22 ⟨w0, 0, none⟩ 18 ∧ (∀ w26, w26 = setP w22 (pzq w0) [x3, x4, x5, x7, x8, x9, x11, x12, x13, x15, x16, x17, x19, x20, x21, x23, x24, x25] →
 ∃ (x27 x28 x29 x30 x31 x32 x33 x34 x35 x36 x37 x38 x39 x40 x41 x42 x43 x44 : Int), LoadL w26 (pzq w0) 0 [x27, x28, x29, x30, x31, x32, x33, x34, x35, x36, x37, x38, x39, x40, x41, x42, x43, x44] ∧
 R (Value.agg #[x27, x28, x29, x30, x31, x32, x33, x34, x35, x36, x37, x38, x39, x40, x41, x42, x43, x44]) w26)))))))) : Cal 221 #[.agg #[a0_0, a0_1, a0_2]] w R :=
 cq an0 Tryz.func221 h
theorem cell_Near_1.vc {c0 : Addr} (h :
 Aw w #[vzz, vzz, vzz] 23 fun w0 =>
 ∃ (x1 : Int), ld w0.drew (padd (some c0) 0) = some (.int .i64 x1) ∧
 ∃ (x2 : Int), ld w0.drew (padd (some c0) 1) = some (.int .i64 x2) ∧
 ∃ (x3 : Int), ld w0.drew (padd (some c0) 2) = some (.int .i64 x3) ∧
 Cal 281 #[x1] w0.drew (Ri fun x5 w4 => Kp w w0.drew w4 ∧
 LoadL w4 (padd (some c0) 2) 0 [x3] ∧ LoadL w4 (padd (some c0) 1) 0 [x2] ∧ Cal 281 #[x2] w4 (Ri fun x7 w6 => Kp w w4 w6 ∧
 LoadL w6 (padd (some c0) 2) 0 [x3] ∧ Cal 281 #[x3] w6 (Ri fun x9 w8 => Kp w w6 w8 ∧
 Cal 280 #[.agg #[(wqq (x5 + a0)), (wqq (x7 + a1)), (wqq (x9 + a2))]] w8 (Ra3 fun x11 x12 x13 w10 => Kp w w8 w10 ∧
 Sw w10 w #[x11, x12, x13] fun w14 =>
 R (Value.agg #[x11, x12, x13]) w14))))) : Cal 279 #[a0, a1, a2, c0] w R :=
 cq an0 Tryz.func279 h
theorem flow_Delay.vc (h :
 Cal 222 #[a0] w (fun e w0 => ∃ (b1 : Bool), e = b1 ∧
 Br b1
 (R (2:Int) w0)
 (Cal 262 #[a0] w0 (fun e w2 => ∃ (b3 : Bool), e = b3 ∧
 Br b3
 (R (5:Int) w2)
 (R (0:Int) w2))))) : Cal 309 #[a0] w R :=
 cq an0 Tryz.func309 h
theorem flow_Wakes.vc {a0 : Value} (h :
 Aw w #[a1_0, a1_1, a1_2] 23 fun w0 =>
 Cal 221 #[.agg #[a1_0, a1_1, a1_2]] w0 (fun e w1 => ∃ (x2 x3 x4 x5 x6 x7 x8 x9 x10 x11 x12 x13 x14 x15 x16 x17 x18 x19 : Int), e = Value.agg #[x2, x3, x4, x5, x6, x7, x8, x9, x10, x11, x12, x13, x14, x15, x16, x17, x18, x19] ∧ Kp w w0 w1 ∧
 Aw w1 #[vzz, vzz, vzz, vzz, vzz, vzz, vzz, vzz, vzz, vzz, vzz, vzz, vzz, vzz, vzz, vzz, vzz, vzz] 266 fun w20 =>
 Wt w20 ⟨w1, 0, none⟩ 18 ∧ Nb w1 w ∧ (∀ w21, w21 = setP w20 (pzq w1) [x2, x3, x4, x5, x6, x7, x8, x9, x10, x11, x12, x13, x14, x15, x16, x17, x18, x19] →
 Aw w21.drew #[a1_0, a1_1, a1_2] 23 fun w22 =>
 ∃ l23 : LV, Rd w22 (slBase (pzq w1) (0) (6) 3) l23 ∧ AppPre 24 3 w22 ⟨(pzq w21.drew.heap.size), 1, 1⟩ (6 - 0) l23 ∧ ∀ (s24 : Sl) (w25 : World), AppRes 23 3 w22 ⟨(pzq w21.drew.heap.size), 1, 1⟩ (6 - 0) l23 s24 w25 → Kp w w22 w25 ∧ w25.heap[w21.drew.heap.size]? = w22.heap[w21.drew.heap.size]? ∧
 ∃ I26 : Nat → Int → Sl → World → Prop,
 (∃ n27, EqL [a1_0, a1_1, a1_2] ∧ EqL [a1_0, a1_1, a1_2] ∧ I26 n27 (0) ⟨none, 0, 0⟩ w25) ∧
 ∀ (n27 : Nat) (us28 : Nat → Value) (x29 : Int) (s30 : Sl) (w31 : World), I26 n27 x29 s30 w31 →
 Br (decide (x29 < ((s24.n : Nat) : Int)))
 (InB s24.a x29 s24.n ∧ ∃ (x33 x34 x35 : Int), LoadL w31 (padd s24.a ((x29 : Int).toNat * 3)) 0 [x33, x34, x35] ∧
 Aw w31 #[vzz, vzz, vzz] 23 fun w36 =>
 Sw w36 w31 #[x33, x34, x35] fun w37 =>
 callV Tryz.prog a0 [.agg #[x33, x34, x35]] w37 (Ri fun x39 w38 => Kp w w37 w38 ∧ w38.heap[w21.drew.heap.size]? = w37.heap[w21.drew.heap.size]? ∧ Kp w31 w37 w38 ∧
 Cal 309 #[x39] w38 (Ri fun x41 w40 => Kp w w38 w40 ∧ w40.heap[w21.drew.heap.size]? = w38.heap[w21.drew.heap.size]? ∧ Kp w31 w38 w40 ∧
 Br (x41 > 0)
 (Aw w40 #[x33, x34, x35] 23 fun w42 =>
 AppPre 24 3 w42 s30 1 [x33, x34, x35] ∧ ∀ (s43 : Sl) (w44 : World), AppRes 23 3 w42 s30 1 [x33, x34, x35] s43 w44 → Kp w w42 w44 ∧ w44.heap[w21.drew.heap.size]? = w42.heap[w21.drew.heap.size]? ∧ K2 w31 w40 w42 w44 (
 ∃ n32, n32 < n27 ∧ EqL [a1_0, a1_1, a1_2] ∧ EqL [a1_0, a1_1, a1_2] ∧ I26 n32 ((wqq (x29 + 1))) s43 w44))
 (∃ n32, n32 < n27 ∧ EqL [a1_0, a1_1, a1_2] ∧ EqL [a1_0, a1_1, a1_2] ∧ I26 n32 ((wqq (x29 + 1))) s30 w40))))
 (R s30 w31)))) : Cal 308 #[a0, .agg #[a1_0, a1_1, a1_2]] w R :=
 cq ⟨[(4, ⟨[(16, .int .i64), (5, .slice)], [], []⟩)], [], []⟩ Tryz.func308 h
theorem sim_New.vc {a0 : Addr} (h :
 Cal 174 #[(4096:Int)] w (fun e w0 => ∃ (p1 : Option Addr), e = p1 ∧
 ∀ w2, w2 = w0.alloc (.cells #[p1, a0, .int .i64 (if 64 < (if 1 > a1 then 1 else a1) then 64 else (if 1 > a1 then 1 else a1)), (0:Int), .func (.func 175) #[] #[], .slice none 0 0] 129) →
 R (Value.pointer (pzq w0)) w2)) : Cal 114 #[a0, a1] w R :=
 cq an0 Tryz.func114 h
theorem sim_Sim_World.vc {a0 : Addr} (h :
 ∃ (p0 : Option Addr), ld w (padd (some a0) 1) = some (.pointer p0) ∧
 R p0 w) : Cal 39 #[a0] w R :=
 cq an0 Tryz.func39 h
theorem sim_Sim_Edit.vc {a0 : Addr} (h :
 Aw w #[a1_0, a1_1, a1_2] 23 fun w0 =>
 ∃ (p1 : Option Addr), ld w0.drew (padd (some a0) 1) = some (.pointer p1) ∧
 Cal 250 #[p1, .agg #[a1_0, a1_1, a1_2], a2] w0.drew (Ri fun x3 w2 => Kp w w0.drew w2 ∧
 Br (x3 == 0)
 (Cal 251 #[a0, .agg #[a1_0, a1_1, a1_2]] w2 (Rt fun w4 => Kp w w2 w4 ∧
 R x3 w4))
 (R x3 w2))) : Cal 188 #[a0, .agg #[a1_0, a1_1, a1_2], a2] w R :=
 cq an0 Tryz.func188 h
theorem sim_Sim_wake.vc {a0 : Addr} (h :
 Aw w #[a1_0, a1_1, a1_2] 23 fun w0 =>
 ∃ (p1 : Option Addr), ld w0 (padd (some a0) 1) = some (.pointer p1) ∧
 Cal 58 #[p1] w0 (Rv fun v3 w2 => Kp w w0 w2 ∧
 Cal 308 #[v3, .agg #[a1_0, a1_1, a1_2]] w2 (Rs fun s5 w4 => Kp w w2 w4 ∧
 ∃ I6 : Nat → Int → World → Prop,
 (∃ n7, EqL [a1_0, a1_1, a1_2] ∧ I6 n7 (0) w4) ∧
 ∀ (n7 : Nat) (us8 : Nat → Value) (x9 : Int) (w10 : World), I6 n7 x9 w10 →
 Br (decide (x9 < ((s5.n : Nat) : Int)))
 (InB s5.a x9 s5.n ∧ ∃ (x12 x13 x14 : Int), LoadL w10 (padd s5.a ((x9 : Int).toNat * 3)) 0 [x12, x13, x14] ∧
 Aw w10 #[vzz, vzz, vzz] 23 fun w15 =>
 Sw w15 w10 #[x12, x13, x14] fun w16 =>
 ∃ (p17 : Option Addr), ld w16.drew (padd (some a0) 0) = some (.pointer p17) ∧
 ∃ (x18 : Int), ld w16.drew (padd (some a0) 3) = some (.int .i64 x18) ∧
 callV Tryz.prog v3 [.agg #[x12, x13, x14]] w16.drew (Ri fun x20 w19 => K2 w w10 w16.drew w19 (
 LoadL w19 (padd (some a0) 3) 0 [x18] ∧ LoadL w19 w10 0 [x12, x13, x14] ∧ LoadL w19 (padd (some a0) 0) 0 [.pointer p17] ∧ Cal 309 #[x20] w19 (Ri fun x22 w21 => K2 w w10 w19 w21 (
 LoadL w21 (padd (some a0) 3) 0 [x18] ∧ LoadL w21 w10 0 [x12, x13, x14] ∧ LoadL w21 (padd (some a0) 0) 0 [.pointer p17] ∧ Cal 219 #[p17, .agg #[x12, x13, x14], (wqq (x18 + x22))] w21 (Rb fun b24 w23 => K2 w w10 w21 w23 (
 LoadL w23 (padd (some a0) 3) 0 [x18] ∧ ∃ n11, n11 < n7 ∧ EqL [a1_0, a1_1, a1_2] ∧ I6 n11 ((wqq (x9 + 1))) w23)))))))
 (R tqq w10)))) : Cal 251 #[a0, .agg #[a1_0, a1_1, a1_2]] w R :=
 cq ⟨[(3, ⟨[(16, .int .i64)], [], []⟩)], [], []⟩ Tryz.func251 h
end Go.Proofs.YtjcnjlaelhdjeaaGreatDoor
