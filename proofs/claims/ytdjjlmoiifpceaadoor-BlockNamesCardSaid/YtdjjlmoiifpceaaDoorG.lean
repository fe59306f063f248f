import Derived.Test.YtdjjlmoiifpceaaDoorChecked
import Derived.KernelRfl
import Derived.Test.YtdjjlmoiifpceaaDoorLib
set_option linter.all false
namespace Go.Proofs.YtdjjlmoiifpceaaDoor
open Go Go.Vc Go.RowKit Go.Proofs
set_option maxRecDepth 100000
set_option maxHeartbeats 8000000
set_option linter.unusedVariables false
theorem Tryd.noNG : NoNG Tryd.prog := ngB_ok (by kernel_rfl)
theorem Tryd.mixed : Tryd.prog.follows .mixedOrders = true := by kernel_rfl
/- breccia/breccialaw04.BlockNames  -/
def law04_BlockNames.pre (a0 : Int) (a1 : ByteArray) (w : World) (R : Ending → World → Prop) : Prop :=
 Br (decide (((((a1).size : Nat) : Int) : Int) > 20))
 ((0 : Int) ≤ 20 ∧ 20 ≤ (((a1).size : Nat) : Int) ∧ Calls Tryd.prog 7 #[.string ((a1).extract (0) ((20 : Int).toNat))] w (fun e w0 => ∃ (x1 : Int) (b2 : Bool), e = .returned (.tuple #[.int .i64 x1, .bool b2]) ∧ 
 Calls Tryd.prog 8 #[.string ((a1).extract (0) ((20 : Int).toNat))] w0 (fun e w3 => ∃ (x4 : Int) (b5 : Bool), e = .returned (.tuple #[.int .i64 x4, .bool b5]) ∧ 
 Calls Tryd.prog 9 #[.int .i64 a0] w3 (fun e w6 => ∃ (t7 : ByteArray), e = .returned (.string t7) ∧ 
 Calls Tryd.prog 7 #[.string t7] w6 (fun e w8 => ∃ (x9 : Int) (b10 : Bool), e = .returned (.tuple #[.int .i64 x9, .bool b10]) ∧ 
 Calls Tryd.prog 9 #[.int .i64 a0] w8 (fun e w11 => ∃ (t12 : ByteArray), e = .returned (.string t12) ∧ 
 Calls Tryd.prog 10 #[.int .i64 a0] w11 (fun e w13 => ∃ (t14 : ByteArray), e = .returned (.string t14) ∧ 
 Br (strEq t12 t14)
 (Br ((x1 : Int) == x4)
 (Br (b2 == b5)
 (Calls Tryd.prog 11 #[.int .i64 a0] w13 (fun e w15 => ∃ (b16 : Bool), e = .returned (.bool b16) ∧ 
 Br (b10 == b16)
 (Br (!b10)
 (Calls Tryd.prog 12 #[] w15 (fun e w17 => ∃ (b18 : Bool), e = .returned (.bool b18) ∧ 
 R (.returned (.bool b18)) w17))
 (Br ((x9 : Int) == a0)
 (Calls Tryd.prog 12 #[] w15 (fun e w19 => ∃ (b20 : Bool), e = .returned (.bool b20) ∧ 
 R (.returned (.bool b20)) w19))
 (R (.returned (.bool false)) w15)))
 (R (.returned (.bool false)) w15)))
 (R (.returned (.bool false)) w13))
 (R (.returned (.bool false)) w13))
 (R (.returned (.bool false)) w13))))))))
 (Calls Tryd.prog 7 #[.string a1] w (fun e w21 => ∃ (x22 : Int) (b23 : Bool), e = .returned (.tuple #[.int .i64 x22, .bool b23]) ∧ 
 Calls Tryd.prog 8 #[.string a1] w21 (fun e w24 => ∃ (x25 : Int) (b26 : Bool), e = .returned (.tuple #[.int .i64 x25, .bool b26]) ∧ 
 Calls Tryd.prog 9 #[.int .i64 a0] w24 (fun e w27 => ∃ (t28 : ByteArray), e = .returned (.string t28) ∧ 
 Calls Tryd.prog 7 #[.string t28] w27 (fun e w29 => ∃ (x30 : Int) (b31 : Bool), e = .returned (.tuple #[.int .i64 x30, .bool b31]) ∧ 
 Calls Tryd.prog 9 #[.int .i64 a0] w29 (fun e w32 => ∃ (t33 : ByteArray), e = .returned (.string t33) ∧ 
 Calls Tryd.prog 10 #[.int .i64 a0] w32 (fun e w34 => ∃ (t35 : ByteArray), e = .returned (.string t35) ∧ 
 Br (strEq t33 t35)
 (Br ((x22 : Int) == x25)
 (Br (b23 == b26)
 (Calls Tryd.prog 11 #[.int .i64 a0] w34 (fun e w36 => ∃ (b37 : Bool), e = .returned (.bool b37) ∧ 
 Br (b31 == b37)
 (Br (!b31)
 (Calls Tryd.prog 12 #[] w36 (fun e w38 => ∃ (b39 : Bool), e = .returned (.bool b39) ∧ 
 R (.returned (.bool b39)) w38))
 (Br ((x30 : Int) == a0)
 (Calls Tryd.prog 12 #[] w36 (fun e w40 => ∃ (b41 : Bool), e = .returned (.bool b41) ∧ 
 R (.returned (.bool b41)) w40))
 (R (.returned (.bool false)) w36)))
 (R (.returned (.bool false)) w36)))
 (R (.returned (.bool false)) w34))
 (R (.returned (.bool false)) w34))
 (R (.returned (.bool false)) w34))))))))
theorem law04_BlockNames.vc {a0 a1 w} {R : Ending → World → Prop} (h : law04_BlockNames.pre a0 a1 w R) : Calls Tryd.prog 3 #[.int .i64 a0, .string a1] w R :=
  calls_of_eq (an := ⟨[], []⟩) (args := [.int .i64 a0, .string a1]) Tryd.noNG Tryd.mixed Tryd.func3 h (by kernel_rfl)

/- breccia/breccialaw04.BlockWords  -/
def law04_BlockWords.pre (a0 : Int) (a1 : Int) (w : World) (R : Ending → World → Prop) : Prop :=
 Calls Tryd.prog 9 #[.int .i64 a0] w (fun e w0 => ∃ (t1 : ByteArray), e = .returned (.string t1) ∧ 
 Calls Tryd.prog 9 #[.int .i64 a1] w0 (fun e w2 => ∃ (t3 : ByteArray), e = .returned (.string t3) ∧ 
 Calls Tryd.prog 7 #[.string t1] w2 (fun e w4 => ∃ (x5 : Int) (b6 : Bool), e = .returned (.tuple #[.int .i64 x5, .bool b6]) ∧ 
 (((t1).size + ((ByteArray.mk #[32])).size : Nat) : Int) ≤ IntKind.i64.max ∧ Calls Tryd.prog 7 #[.string (t1 ++ (ByteArray.mk #[32]))] w4 (fun e w7 => ∃ (x8 : Int) (b9 : Bool), e = .returned (.tuple #[.int .i64 x8, .bool b9]) ∧ 
 Br (!b6)
 (Calls Tryd.prog 13 #[.int .i64 a0] w7 (fun e w10 => ∃ (b11 : Bool), e = .returned (.bool b11) ∧ 
 Br (b6 == b11)
 (Br (!b9)
 (Br ((a0 : Int) == a1)
 (Br ((strEq t1 t3) == true)
 (Calls Tryd.prog 12 #[] w10 (fun e w12 => ∃ (b13 : Bool), e = .returned (.bool b13) ∧ 
 R (.returned (.bool b13)) w12))
 (R (.returned (.bool false)) w10))
 (Calls Tryd.prog 11 #[.int .i64 a0] w10 (fun e w14 => ∃ (b15 : Bool), e = .returned (.bool b15) ∧ 
 Br (!b15)
 (Calls Tryd.prog 11 #[.int .i64 a1] w14 (fun e w16 => ∃ (b17 : Bool), e = .returned (.bool b17) ∧ 
 Br ((strEq t1 t3) == (!b17))
 (Calls Tryd.prog 12 #[] w16 (fun e w18 => ∃ (b19 : Bool), e = .returned (.bool b19) ∧ 
 R (.returned (.bool b19)) w18))
 (R (.returned (.bool false)) w16)))
 (Br ((strEq t1 t3) == false)
 (Calls Tryd.prog 12 #[] w14 (fun e w20 => ∃ (b21 : Bool), e = .returned (.bool b21) ∧ 
 R (.returned (.bool b21)) w20))
 (R (.returned (.bool false)) w14)))))
 (R (.returned (.bool false)) w10))
 (R (.returned (.bool false)) w10)))
 (Br ((x5 : Int) == a0)
 (Calls Tryd.prog 13 #[.int .i64 a0] w7 (fun e w22 => ∃ (b23 : Bool), e = .returned (.bool b23) ∧ 
 Br (b6 == b23)
 (Br (!b9)
 (Br ((a0 : Int) == a1)
 (Br ((strEq t1 t3) == true)
 (Calls Tryd.prog 12 #[] w22 (fun e w24 => ∃ (b25 : Bool), e = .returned (.bool b25) ∧ 
 R (.returned (.bool b25)) w24))
 (R (.returned (.bool false)) w22))
 (Calls Tryd.prog 11 #[.int .i64 a0] w22 (fun e w26 => ∃ (b27 : Bool), e = .returned (.bool b27) ∧ 
 Br (!b27)
 (Calls Tryd.prog 11 #[.int .i64 a1] w26 (fun e w28 => ∃ (b29 : Bool), e = .returned (.bool b29) ∧ 
 Br ((strEq t1 t3) == (!b29))
 (Calls Tryd.prog 12 #[] w28 (fun e w30 => ∃ (b31 : Bool), e = .returned (.bool b31) ∧ 
 R (.returned (.bool b31)) w30))
 (R (.returned (.bool false)) w28)))
 (Br ((strEq t1 t3) == false)
 (Calls Tryd.prog 12 #[] w26 (fun e w32 => ∃ (b33 : Bool), e = .returned (.bool b33) ∧ 
 R (.returned (.bool b33)) w32))
 (R (.returned (.bool false)) w26)))))
 (R (.returned (.bool false)) w22))
 (R (.returned (.bool false)) w22)))
 (R (.returned (.bool false)) w7))))))
theorem law04_BlockWords.vc {a0 a1 w} {R : Ending → World → Prop} (h : law04_BlockWords.pre a0 a1 w R) : Calls Tryd.prog 4 #[.int .i64 a0, .int .i64 a1] w R :=
  calls_of_eq (an := ⟨[], []⟩) (args := [.int .i64 a0, .int .i64 a1]) Tryd.noNG Tryd.mixed Tryd.func4 h (by kernel_rfl)

/- breccia/breccialaw04.BlockWaters  -/
def law04_BlockWaters.pre (a0 : Int) (w : World) (R : Ending → World → Prop) : Prop :=
 Calls Tryd.prog 14 #[.int .i64 a0] w (fun e w0 => ∃ (x1 : Int), e = .returned (.int .i64 x1) ∧ 
 Calls Tryd.prog 15 #[] w0 (fun e w2 => ∃ (s3 : Sl), e = .returned (.slice s3.a s3.n s3.c) ∧ 
 Br ((((s3.n : Nat) : Int) : Int) != 14)
 (R (.returned (.bool false)) w2)
 (∃ I4 : Nat → Int → World → Prop,
 (∃ n5, I4 n5 (0) w2) ∧
 ∀ (n5 : Nat) (us6 : Nat → Value) (x7 : Int) (w8 : World), I4 n5 x7 w8 →
 Br (decide ((x7 : Int) < 14))
 (InB s3.a x7 s3.n ∧ ∃ (x10 : Int), ld w8.drew (padd s3.a ((x7 : Int).toNat * 1)) = some (.int .i64 x10) ∧
 Calls Tryd.prog 16 #[.int .i64 x7] w8.drew (fun e w11 => ∃ (x12 : Int), e = .returned (.int .i64 x12) ∧ 
 LoadL w11 (padd s3.a ((x7 : Int).toNat * 1)) 0 [.int .i64 x10] ∧ Br ((x10 : Int) != x12)
 (R (.returned (.bool false)) w11)
 (∃ n9, n9 < n5 ∧ I4 n9 ((IntKind.wrap .i64 (x7 + 1))) w11)))
 (Calls Tryd.prog 17 #[.int .i64 x1] w8 (fun e w13 => ∃ (b14 : Bool), e = .returned (.bool b14) ∧ 
 Br b14
 (Calls Tryd.prog 18 #[.int .i64 x1] w13 (fun e w15 => ∃ (x16 : Int), e = .returned (.int .i64 x16) ∧ 
 Br ((x16 : Int) == (if 7 < (if 0 > a0 then 0 else a0) then 7 else (if 0 > a0 then 0 else a0)))
 (Calls Tryd.prog 12 #[] w15 (fun e w17 => ∃ (b18 : Bool), e = .returned (.bool b18) ∧ 
 R (.returned (.bool b18)) w17))
 (R (.returned (.bool false)) w15)))
 (R (.returned (.bool false)) w13))))))
theorem law04_BlockWaters.vc {a0 w} {R : Ending → World → Prop} (h : law04_BlockWaters.pre a0 w R) : Calls Tryd.prog 5 #[.int .i64 a0] w R :=
  calls_of_eq (an := ⟨[(6, ⟨[(5, .int .i64)], [], []⟩)], []⟩) (args := [.int .i64 a0]) Tryd.noNG Tryd.mixed Tryd.func5 h (by kernel_rfl)

/- breccia/breccialaw04.BlockKinds  -/
def law04_BlockKinds.pre (a0 : Int) (w : World) (R : Ending → World → Prop) : Prop :=
 ∃ I0 : Nat → Int → World → Prop,
 (∃ n1, I0 n1 ((-3)) w) ∧
 ∀ (n1 : Nat) (us2 : Nat → Value) (x3 : Int) (w4 : World), I0 n1 x3 w4 →
 Br (decide ((x3 : Int) < 18))
 (Br ((x3 : Int) == (-3))
 (Calls Tryd.prog 13 #[.int .i64 a0] w4 (fun e w6 => ∃ (b7 : Bool), e = .returned (.bool b7) ∧ 
 Calls Tryd.prog 11 #[.int .i64 a0] w6 (fun e w8 => ∃ (b9 : Bool), e = .returned (.bool b9) ∧ 
 Br (!(b7 == b9))
 (R (.returned (.bool false)) w8)
 (Calls Tryd.prog 19 #[.int .i64 a0] w8 (fun e w10 => ∃ (b11 : Bool), e = .returned (.bool b11) ∧ 
 Calls Tryd.prog 20 #[.int .i64 a0] w10 (fun e w12 => ∃ (b13 : Bool), e = .returned (.bool b13) ∧ 
 Br (!(b11 == b13))
 (R (.returned (.bool false)) w12)
 (Calls Tryd.prog 17 #[.int .i64 a0] w12 (fun e w14 => ∃ (b15 : Bool), e = .returned (.bool b15) ∧ 
 Calls Tryd.prog 21 #[.int .i64 a0] w14 (fun e w16 => ∃ (b17 : Bool), e = .returned (.bool b17) ∧ 
 Br (!(b15 == b17))
 (R (.returned (.bool false)) w16)
 (Calls Tryd.prog 22 #[.int .i64 a0] w16 (fun e w18 => ∃ (b19 : Bool), e = .returned (.bool b19) ∧ 
 Calls Tryd.prog 23 #[.int .i64 a0] w18 (fun e w20 => ∃ (b21 : Bool), e = .returned (.bool b21) ∧ 
 Br (!(b19 == b21))
 (R (.returned (.bool false)) w20)
 (Calls Tryd.prog 24 #[.int .i64 a0] w20 (fun e w22 => ∃ (b23 : Bool), e = .returned (.bool b23) ∧ 
 Br (!(b23 == ((a0 : Int) == 3)))
 (R (.returned (.bool false)) w22)
 (Calls Tryd.prog 25 #[.int .i64 a0] w22 (fun e w24 => ∃ (b25 : Bool), e = .returned (.bool b25) ∧ 
 Br (!(b25 == ((a0 : Int) == 4)))
 (R (.returned (.bool false)) w24)
 (Calls Tryd.prog 18 #[.int .i64 a0] w24 (fun e w26 => ∃ (x27 : Int), e = .returned (.int .i64 x27) ∧ 
 Calls Tryd.prog 26 #[.int .i64 a0] w26 (fun e w28 => ∃ (x29 : Int), e = .returned (.int .i64 x29) ∧ 
 Br ((x27 : Int) != x29)
 (R (.returned (.bool false)) w28)
 (Calls Tryd.prog 19 #[.int .i64 a0] w28 (fun e w30 => ∃ (b31 : Bool), e = .returned (.bool b31) ∧ 
 Br b31
 (Calls Tryd.prog 22 #[.int .i64 a0] w30 (fun e w32 => ∃ (b33 : Bool), e = .returned (.bool b33) ∧ 
 Br b33
 (Calls Tryd.prog 25 #[.int .i64 a0] w32 (fun e w34 => ∃ (b35 : Bool), e = .returned (.bool b35) ∧ 
 Br b35
 (Calls Tryd.prog 13 #[.int .i64 a0] w34 (fun e w36 => ∃ (b37 : Bool), e = .returned (.bool b37) ∧ 
 Br b37
 (Br (((IntKind.wrap .i64 ((IntKind.wrap .i64 ((IntKind.wrap .i64 (0 + 1)) + 1)) + 1)) : Int) != 1)
 (R (.returned (.bool false)) w36)
 (∃ n5, n5 < n1 ∧ I0 n5 ((IntKind.wrap .i64 (x3 + 1))) w36))
 (∃ n5, n5 < n1 ∧ I0 n5 ((IntKind.wrap .i64 (x3 + 1))) w36)))
 (Calls Tryd.prog 13 #[.int .i64 a0] w34 (fun e w38 => ∃ (b39 : Bool), e = .returned (.bool b39) ∧ 
 Br b39
 (Br (((IntKind.wrap .i64 ((IntKind.wrap .i64 (0 + 1)) + 1)) : Int) != 1)
 (R (.returned (.bool false)) w38)
 (∃ n5, n5 < n1 ∧ I0 n5 ((IntKind.wrap .i64 (x3 + 1))) w38))
 (∃ n5, n5 < n1 ∧ I0 n5 ((IntKind.wrap .i64 (x3 + 1))) w38)))))
 (Calls Tryd.prog 25 #[.int .i64 a0] w32 (fun e w40 => ∃ (b41 : Bool), e = .returned (.bool b41) ∧ 
 Br b41
 (Calls Tryd.prog 13 #[.int .i64 a0] w40 (fun e w42 => ∃ (b43 : Bool), e = .returned (.bool b43) ∧ 
 Br b43
 (Br (((IntKind.wrap .i64 ((IntKind.wrap .i64 (0 + 1)) + 1)) : Int) != 1)
 (R (.returned (.bool false)) w42)
 (∃ n5, n5 < n1 ∧ I0 n5 ((IntKind.wrap .i64 (x3 + 1))) w42))
 (∃ n5, n5 < n1 ∧ I0 n5 ((IntKind.wrap .i64 (x3 + 1))) w42)))
 (Calls Tryd.prog 13 #[.int .i64 a0] w40 (fun e w44 => ∃ (b45 : Bool), e = .returned (.bool b45) ∧ 
 Br b45
 (Br (((IntKind.wrap .i64 (0 + 1)) : Int) != 1)
 (R (.returned (.bool false)) w44)
 (∃ n5, n5 < n1 ∧ I0 n5 ((IntKind.wrap .i64 (x3 + 1))) w44))
 (∃ n5, n5 < n1 ∧ I0 n5 ((IntKind.wrap .i64 (x3 + 1))) w44)))))))
 (Calls Tryd.prog 22 #[.int .i64 a0] w30 (fun e w46 => ∃ (b47 : Bool), e = .returned (.bool b47) ∧ 
 Br b47
 (Calls Tryd.prog 25 #[.int .i64 a0] w46 (fun e w48 => ∃ (b49 : Bool), e = .returned (.bool b49) ∧ 
 Br b49
 (Calls Tryd.prog 13 #[.int .i64 a0] w48 (fun e w50 => ∃ (b51 : Bool), e = .returned (.bool b51) ∧ 
 Br b51
 (Br (((IntKind.wrap .i64 ((IntKind.wrap .i64 (0 + 1)) + 1)) : Int) != 1)
 (R (.returned (.bool false)) w50)
 (∃ n5, n5 < n1 ∧ I0 n5 ((IntKind.wrap .i64 (x3 + 1))) w50))
 (∃ n5, n5 < n1 ∧ I0 n5 ((IntKind.wrap .i64 (x3 + 1))) w50)))
 (Calls Tryd.prog 13 #[.int .i64 a0] w48 (fun e w52 => ∃ (b53 : Bool), e = .returned (.bool b53) ∧ 
 Br b53
 (Br (((IntKind.wrap .i64 (0 + 1)) : Int) != 1)
 (R (.returned (.bool false)) w52)
 (∃ n5, n5 < n1 ∧ I0 n5 ((IntKind.wrap .i64 (x3 + 1))) w52))
 (∃ n5, n5 < n1 ∧ I0 n5 ((IntKind.wrap .i64 (x3 + 1))) w52)))))
 (Calls Tryd.prog 25 #[.int .i64 a0] w46 (fun e w54 => ∃ (b55 : Bool), e = .returned (.bool b55) ∧ 
 Br b55
 (Calls Tryd.prog 13 #[.int .i64 a0] w54 (fun e w56 => ∃ (b57 : Bool), e = .returned (.bool b57) ∧ 
 Br b57
 (Br (((IntKind.wrap .i64 (0 + 1)) : Int) != 1)
 (R (.returned (.bool false)) w56)
 (∃ n5, n5 < n1 ∧ I0 n5 ((IntKind.wrap .i64 (x3 + 1))) w56))
 (∃ n5, n5 < n1 ∧ I0 n5 ((IntKind.wrap .i64 (x3 + 1))) w56)))
 (Calls Tryd.prog 13 #[.int .i64 a0] w54 (fun e w58 => ∃ (b59 : Bool), e = .returned (.bool b59) ∧ 
 Br b59
 (Br ((0 : Int) != 1)
 (R (.returned (.bool false)) w58)
 (∃ n5, n5 < n1 ∧ I0 n5 ((IntKind.wrap .i64 (x3 + 1))) w58))
 (∃ n5, n5 < n1 ∧ I0 n5 ((IntKind.wrap .i64 (x3 + 1))) w58))))))))))))))))))))))))))))
 (Calls Tryd.prog 13 #[.int .i64 x3] w4 (fun e w60 => ∃ (b61 : Bool), e = .returned (.bool b61) ∧ 
 Calls Tryd.prog 11 #[.int .i64 x3] w60 (fun e w62 => ∃ (b63 : Bool), e = .returned (.bool b63) ∧ 
 Br (!(b61 == b63))
 (R (.returned (.bool false)) w62)
 (Calls Tryd.prog 19 #[.int .i64 x3] w62 (fun e w64 => ∃ (b65 : Bool), e = .returned (.bool b65) ∧ 
 Calls Tryd.prog 20 #[.int .i64 x3] w64 (fun e w66 => ∃ (b67 : Bool), e = .returned (.bool b67) ∧ 
 Br (!(b65 == b67))
 (R (.returned (.bool false)) w66)
 (Calls Tryd.prog 17 #[.int .i64 x3] w66 (fun e w68 => ∃ (b69 : Bool), e = .returned (.bool b69) ∧ 
 Calls Tryd.prog 21 #[.int .i64 x3] w68 (fun e w70 => ∃ (b71 : Bool), e = .returned (.bool b71) ∧ 
 Br (!(b69 == b71))
 (R (.returned (.bool false)) w70)
 (Calls Tryd.prog 22 #[.int .i64 x3] w70 (fun e w72 => ∃ (b73 : Bool), e = .returned (.bool b73) ∧ 
 Calls Tryd.prog 23 #[.int .i64 x3] w72 (fun e w74 => ∃ (b75 : Bool), e = .returned (.bool b75) ∧ 
 Br (!(b73 == b75))
 (R (.returned (.bool false)) w74)
 (Calls Tryd.prog 24 #[.int .i64 x3] w74 (fun e w76 => ∃ (b77 : Bool), e = .returned (.bool b77) ∧ 
 Br (!(b77 == ((x3 : Int) == 3)))
 (R (.returned (.bool false)) w76)
 (Calls Tryd.prog 25 #[.int .i64 x3] w76 (fun e w78 => ∃ (b79 : Bool), e = .returned (.bool b79) ∧ 
 Br (!(b79 == ((x3 : Int) == 4)))
 (R (.returned (.bool false)) w78)
 (Calls Tryd.prog 18 #[.int .i64 x3] w78 (fun e w80 => ∃ (x81 : Int), e = .returned (.int .i64 x81) ∧ 
 Calls Tryd.prog 26 #[.int .i64 x3] w80 (fun e w82 => ∃ (x83 : Int), e = .returned (.int .i64 x83) ∧ 
 Br ((x81 : Int) != x83)
 (R (.returned (.bool false)) w82)
 (Calls Tryd.prog 19 #[.int .i64 x3] w82 (fun e w84 => ∃ (b85 : Bool), e = .returned (.bool b85) ∧ 
 Br b85
 (Calls Tryd.prog 22 #[.int .i64 x3] w84 (fun e w86 => ∃ (b87 : Bool), e = .returned (.bool b87) ∧ 
 Br b87
 (Calls Tryd.prog 25 #[.int .i64 x3] w86 (fun e w88 => ∃ (b89 : Bool), e = .returned (.bool b89) ∧ 
 Br b89
 (Calls Tryd.prog 13 #[.int .i64 x3] w88 (fun e w90 => ∃ (b91 : Bool), e = .returned (.bool b91) ∧ 
 Br b91
 (Br (((IntKind.wrap .i64 ((IntKind.wrap .i64 ((IntKind.wrap .i64 (0 + 1)) + 1)) + 1)) : Int) != 1)
 (R (.returned (.bool false)) w90)
 (∃ n5, n5 < n1 ∧ I0 n5 ((IntKind.wrap .i64 (x3 + 1))) w90))
 (∃ n5, n5 < n1 ∧ I0 n5 ((IntKind.wrap .i64 (x3 + 1))) w90)))
 (Calls Tryd.prog 13 #[.int .i64 x3] w88 (fun e w92 => ∃ (b93 : Bool), e = .returned (.bool b93) ∧ 
 Br b93
 (Br (((IntKind.wrap .i64 ((IntKind.wrap .i64 (0 + 1)) + 1)) : Int) != 1)
 (R (.returned (.bool false)) w92)
 (∃ n5, n5 < n1 ∧ I0 n5 ((IntKind.wrap .i64 (x3 + 1))) w92))
 (∃ n5, n5 < n1 ∧ I0 n5 ((IntKind.wrap .i64 (x3 + 1))) w92)))))
 (Calls Tryd.prog 25 #[.int .i64 x3] w86 (fun e w94 => ∃ (b95 : Bool), e = .returned (.bool b95) ∧ 
 Br b95
 (Calls Tryd.prog 13 #[.int .i64 x3] w94 (fun e w96 => ∃ (b97 : Bool), e = .returned (.bool b97) ∧ 
 Br b97
 (Br (((IntKind.wrap .i64 ((IntKind.wrap .i64 (0 + 1)) + 1)) : Int) != 1)
 (R (.returned (.bool false)) w96)
 (∃ n5, n5 < n1 ∧ I0 n5 ((IntKind.wrap .i64 (x3 + 1))) w96))
 (∃ n5, n5 < n1 ∧ I0 n5 ((IntKind.wrap .i64 (x3 + 1))) w96)))
 (Calls Tryd.prog 13 #[.int .i64 x3] w94 (fun e w98 => ∃ (b99 : Bool), e = .returned (.bool b99) ∧ 
 Br b99
 (Br (((IntKind.wrap .i64 (0 + 1)) : Int) != 1)
 (R (.returned (.bool false)) w98)
 (∃ n5, n5 < n1 ∧ I0 n5 ((IntKind.wrap .i64 (x3 + 1))) w98))
 (∃ n5, n5 < n1 ∧ I0 n5 ((IntKind.wrap .i64 (x3 + 1))) w98)))))))
 (Calls Tryd.prog 22 #[.int .i64 x3] w84 (fun e w100 => ∃ (b101 : Bool), e = .returned (.bool b101) ∧ 
 Br b101
 (Calls Tryd.prog 25 #[.int .i64 x3] w100 (fun e w102 => ∃ (b103 : Bool), e = .returned (.bool b103) ∧ 
 Br b103
 (Calls Tryd.prog 13 #[.int .i64 x3] w102 (fun e w104 => ∃ (b105 : Bool), e = .returned (.bool b105) ∧ 
 Br b105
 (Br (((IntKind.wrap .i64 ((IntKind.wrap .i64 (0 + 1)) + 1)) : Int) != 1)
 (R (.returned (.bool false)) w104)
 (∃ n5, n5 < n1 ∧ I0 n5 ((IntKind.wrap .i64 (x3 + 1))) w104))
 (∃ n5, n5 < n1 ∧ I0 n5 ((IntKind.wrap .i64 (x3 + 1))) w104)))
 (Calls Tryd.prog 13 #[.int .i64 x3] w102 (fun e w106 => ∃ (b107 : Bool), e = .returned (.bool b107) ∧ 
 Br b107
 (Br (((IntKind.wrap .i64 (0 + 1)) : Int) != 1)
 (R (.returned (.bool false)) w106)
 (∃ n5, n5 < n1 ∧ I0 n5 ((IntKind.wrap .i64 (x3 + 1))) w106))
 (∃ n5, n5 < n1 ∧ I0 n5 ((IntKind.wrap .i64 (x3 + 1))) w106)))))
 (Calls Tryd.prog 25 #[.int .i64 x3] w100 (fun e w108 => ∃ (b109 : Bool), e = .returned (.bool b109) ∧ 
 Br b109
 (Calls Tryd.prog 13 #[.int .i64 x3] w108 (fun e w110 => ∃ (b111 : Bool), e = .returned (.bool b111) ∧ 
 Br b111
 (Br (((IntKind.wrap .i64 (0 + 1)) : Int) != 1)
 (R (.returned (.bool false)) w110)
 (∃ n5, n5 < n1 ∧ I0 n5 ((IntKind.wrap .i64 (x3 + 1))) w110))
 (∃ n5, n5 < n1 ∧ I0 n5 ((IntKind.wrap .i64 (x3 + 1))) w110)))
 (Calls Tryd.prog 13 #[.int .i64 x3] w108 (fun e w112 => ∃ (b113 : Bool), e = .returned (.bool b113) ∧ 
 Br b113
 (Br ((0 : Int) != 1)
 (R (.returned (.bool false)) w112)
 (∃ n5, n5 < n1 ∧ I0 n5 ((IntKind.wrap .i64 (x3 + 1))) w112))
 (∃ n5, n5 < n1 ∧ I0 n5 ((IntKind.wrap .i64 (x3 + 1))) w112)))))))))))))))))))))))))))))
 (Calls Tryd.prog 12 #[] w4 (fun e w114 => ∃ (b115 : Bool), e = .returned (.bool b115) ∧ 
 R (.returned (.bool b115)) w114))
theorem law04_BlockKinds.vc {a0 w} {R : Ending → World → Prop} (h : law04_BlockKinds.pre a0 w R) : Calls Tryd.prog 6 #[.int .i64 a0] w R :=
  calls_of_eq (an := ⟨[(2, ⟨[(3, .int .i64)], [], []⟩)], []⟩) (args := [.int .i64 a0]) Tryd.noNG Tryd.mixed Tryd.func6 h (by kernel_rfl)

/- breccia/block.Parse  -/
def block_Parse.pre (a0 : ByteArray) (w : World) (R : Ending → World → Prop) : Prop :=
 Calls Tryd.prog 27 #[] w (fun e w0 => ∃ (t1 : ByteArray) (t2 : ByteArray) (t3 : ByteArray) (t4 : ByteArray) (t5 : ByteArray) (t6 : ByteArray) (t7 : ByteArray) (t8 : ByteArray) (t9 : ByteArray) (t10 : ByteArray) (t11 : ByteArray) (t12 : ByteArray) (t13 : ByteArray) (t14 : ByteArray) (t15 : ByteArray) (t16 : ByteArray), e = .returned (.agg #[.string t1, .string t2, .string t3, .string t4, .string t5, .string t6, .string t7, .string t8, .string t9, .string t10, .string t11, .string t12, .string t13, .string t14, .string t15, .string t16]) ∧ 
 ∃ I17 : Nat → Int → World → Prop,
 (∃ n18, I17 n18 (0) w0) ∧
 ∀ (n18 : Nat) (us19 : Nat → Value) (x20 : Int) (w21 : World), I17 n18 x20 w21 →
 Br (decide ((x20 : Int) < 16))
 (((0 : Int) ≤ x20 ∧ (x20 : Int) < ((16 : Nat) : Int)) ∧ ∃ (t23 : ByteArray), ([.string t1, .string t2, .string t3, .string t4, .string t5, .string t6, .string t7, .string t8, .string t9, .string t10, .string t11, .string t12, .string t13, .string t14, .string t15, .string t16] : List Value)[(x20 : Int).toNat * 1]? = some (.string t23) ∧
 Br (strEq t23 a0)
 (Br (!strEq a0 (ByteArray.mk #[]))
 (R (.returned (.tuple #[.int .i64 x20, .bool true])) w21)
 (∃ n22, n22 < n18 ∧ I17 n22 ((IntKind.wrap .i64 (x20 + 1))) w21))
 (∃ n22, n22 < n18 ∧ I17 n22 ((IntKind.wrap .i64 (x20 + 1))) w21))
 (R (.returned (.tuple #[.int .i64 0, .bool false])) w21))
theorem block_Parse.vc {a0 w} {R : Ending → World → Prop} (h : block_Parse.pre a0 w R) : Calls Tryd.prog 7 #[.string a0] w R :=
  calls_of_eq (an := ⟨[(2, ⟨[(7, .int .i64)], [], []⟩)], []⟩) (args := [.string a0]) Tryd.noNG Tryd.mixed Tryd.func7 h (by kernel_rfl)

/- breccia/brecciaref04.Parse  -/
def ref04_Parse.pre (a0 : ByteArray) (w : World) (R : Ending → World → Prop) : Prop :=
 ∃ I0 : Nat → Int → World → Prop,
 (∃ n1, I0 n1 (0) w) ∧
 ∀ (n1 : Nat) (us2 : Nat → Value) (x3 : Int) (w4 : World), I0 n1 x3 w4 →
 Br (decide ((x3 : Int) < 16))
 (Calls Tryd.prog 11 #[.int .i64 x3] w4 (fun e w6 => ∃ (b7 : Bool), e = .returned (.bool b7) ∧ 
 Br b7
 (Calls Tryd.prog 10 #[.int .i64 x3] w6 (fun e w8 => ∃ (t9 : ByteArray), e = .returned (.string t9) ∧ 
 Br (strEq t9 a0)
 (R (.returned (.tuple #[.int .i64 x3, .bool true])) w8)
 (∃ n5, n5 < n1 ∧ I0 n5 ((IntKind.wrap .i64 (x3 + 1))) w8)))
 (∃ n5, n5 < n1 ∧ I0 n5 ((IntKind.wrap .i64 (x3 + 1))) w6)))
 (R (.returned (.tuple #[.int .i64 0, .bool false])) w4)
theorem ref04_Parse.vc {a0 w} {R : Ending → World → Prop} (h : ref04_Parse.pre a0 w R) : Calls Tryd.prog 8 #[.string a0] w R :=
  calls_of_eq (an := ⟨[(2, ⟨[(4, .int .i64)], [], []⟩)], []⟩) (args := [.string a0]) Tryd.noNG Tryd.mixed Tryd.func8 h (by kernel_rfl)

/- breccia/block.Name  -/
def block_Name.pre (a0 : Int) (w : World) (R : Ending → World → Prop) : Prop :=
 Br (decide ((a0 : Int) < 0))
 (R (.returned (.string (ByteArray.mk #[]))) w)
 (Br (decide ((a0 : Int) ≥ 16))
 (R (.returned (.string (ByteArray.mk #[]))) w)
 (Calls Tryd.prog 27 #[] w (fun e w0 => ∃ (t1 : ByteArray) (t2 : ByteArray) (t3 : ByteArray) (t4 : ByteArray) (t5 : ByteArray) (t6 : ByteArray) (t7 : ByteArray) (t8 : ByteArray) (t9 : ByteArray) (t10 : ByteArray) (t11 : ByteArray) (t12 : ByteArray) (t13 : ByteArray) (t14 : ByteArray) (t15 : ByteArray) (t16 : ByteArray), e = .returned (.agg #[.string t1, .string t2, .string t3, .string t4, .string t5, .string t6, .string t7, .string t8, .string t9, .string t10, .string t11, .string t12, .string t13, .string t14, .string t15, .string t16]) ∧ 
 ((0 : Int) ≤ a0 ∧ (a0 : Int) < ((16 : Nat) : Int)) ∧ ∃ (t17 : ByteArray), ([.string t1, .string t2, .string t3, .string t4, .string t5, .string t6, .string t7, .string t8, .string t9, .string t10, .string t11, .string t12, .string t13, .string t14, .string t15, .string t16] : List Value)[(a0 : Int).toNat * 1]? = some (.string t17) ∧
 R (.returned (.string t17)) w0)))
theorem block_Name.vc {a0 w} {R : Ending → World → Prop} (h : block_Name.pre a0 w R) : Calls Tryd.prog 9 #[.int .i64 a0] w R :=
  calls_of_eq (an := ⟨[], []⟩) (args := [.int .i64 a0]) Tryd.noNG Tryd.mixed Tryd.func9 h (by kernel_rfl)

/- breccia/brecciaref04.Name  -/
def ref04_Name.pre (a0 : Int) (w : World) (R : Ending → World → Prop) : Prop :=
 Calls Tryd.prog 11 #[.int .i64 a0] w (fun e w0 => ∃ (b1 : Bool), e = .returned (.bool b1) ∧ 
 Br (!b1)
 (R (.returned (.string (ByteArray.mk #[]))) w0)
 (Br (decide ((a0 : Int) ≥ 8))
 ((0 : Int) ≤ (IntKind.wrap .i64 (a0 - 7)) ∧ (IntKind.wrap .i64 (a0 - 7)) ≤ ((((ByteArray.mk #[48, 49, 50, 51, 52, 53, 54, 55])).size : Nat) : Int) ∧ (0 : Int) ≤ (IntKind.wrap .i64 (a0 - 8)) ∧ ((IntKind.wrap .i64 (a0 - 8)) : Int) ≤ (IntKind.wrap .i64 (a0 - 7)) ∧ ((((ByteArray.mk #[119, 97, 116, 101, 114])).size + ((((ByteArray.mk #[48, 49, 50, 51, 52, 53, 54, 55])).extract (((IntKind.wrap .i64 (a0 - 8)) : Int).toNat) (((IntKind.wrap .i64 (a0 - 7)) : Int).toNat))).size : Nat) : Int) ≤ IntKind.i64.max ∧ R (.returned (.string ((ByteArray.mk #[119, 97, 116, 101, 114]) ++ (((ByteArray.mk #[48, 49, 50, 51, 52, 53, 54, 55])).extract (((IntKind.wrap .i64 (a0 - 8)) : Int).toNat) (((IntKind.wrap .i64 (a0 - 7)) : Int).toNat))))) w0)
 (∀ w2 : World, w2 = w0.alloc (.cells #[.string (ByteArray.mk #[97, 105, 114]), .string (ByteArray.mk #[115, 116, 111, 110, 101]), .string (ByteArray.mk #[100, 105, 114, 116]), .string (ByteArray.mk #[115, 97, 110, 100]), .string (ByteArray.mk #[108, 97, 100, 100, 101, 114]), .string (ByteArray.mk #[103, 108, 97, 115, 115])] 9) →
 InB (some ⟨w0.heap.size, 0, none⟩) a0 6 ∧ ∃ (t3 : ByteArray), ld w2 (padd (some ⟨w0.heap.size, 0, none⟩) ((a0 : Int).toNat * 1)) = some (.string t3) ∧
 R (.returned (.string t3)) w2)))
theorem ref04_Name.vc {a0 w} {R : Ending → World → Prop} (h : ref04_Name.pre a0 w R) : Calls Tryd.prog 10 #[.int .i64 a0] w R :=
  calls_of_eq (an := ⟨[], []⟩) (args := [.int .i64 a0]) Tryd.noNG Tryd.mixed Tryd.func10 h (by kernel_rfl)

/- breccia/brecciaref04.May  -/
def ref04_May.pre (a0 : Int) (w : World) (R : Ending → World → Prop) : Prop :=
 Br (decide ((a0 : Int) ≥ 0))
 (Br (decide ((a0 : Int) ≤ 15))
 (Br ((a0 : Int) != 6)
 (R (.returned (.bool ((a0 : Int) != 7))) w)
 (R (.returned (.bool false)) w))
 (R (.returned (.bool false)) w))
 (R (.returned (.bool false)) w)
theorem ref04_May.vc {a0 w} {R : Ending → World → Prop} (h : ref04_May.pre a0 w R) : Calls Tryd.prog 11 #[.int .i64 a0] w R :=
  calls_of_eq (an := ⟨[], []⟩) (args := [.int .i64 a0]) Tryd.noNG Tryd.mixed Tryd.func11 h (by kernel_rfl)

/- breccia/breccialaw04.lives  -/
def law04_lives.pre  (w : World) (R : Ending → World → Prop) : Prop :=
 Calls Tryd.prog 14 #[.int .i64 3] w (fun e w0 => ∃ (x1 : Int), e = .returned (.int .i64 x1) ∧ 
 Br ((x1 : Int) == 11)
 (Calls Tryd.prog 9 #[.int .i64 11] w0 (fun e w2 => ∃ (t3 : ByteArray), e = .returned (.string t3) ∧ 
 R (.returned (.bool (strEq t3 (ByteArray.mk #[119, 97, 116, 101, 114, 51])))) w2))
 (R (.returned (.bool false)) w0))
theorem law04_lives.vc {w} {R : Ending → World → Prop} (h : law04_lives.pre  w R) : Calls Tryd.prog 12 #[] w R :=
  calls_of_eq (an := ⟨[], []⟩) (args := []) Tryd.noNG Tryd.mixed Tryd.func12 h (by kernel_rfl)

/- breccia/block.May  -/
def block_May.pre (a0 : Int) (w : World) (R : Ending → World → Prop) : Prop :=
 Calls Tryd.prog 9 #[.int .i64 a0] w (fun e w0 => ∃ (t1 : ByteArray), e = .returned (.string t1) ∧ 
 R (.returned (.bool (!strEq t1 (ByteArray.mk #[])))) w0)
theorem block_May.vc {a0 w} {R : Ending → World → Prop} (h : block_May.pre a0 w R) : Calls Tryd.prog 13 #[.int .i64 a0] w R :=
  calls_of_eq (an := ⟨[], []⟩) (args := [.int .i64 a0]) Tryd.noNG Tryd.mixed Tryd.func13 h (by kernel_rfl)

/- breccia/block.Water  -/
def block_Water.pre (a0 : Int) (w : World) (R : Ending → World → Prop) : Prop :=
 R (.returned (.int .i64 (IntKind.wrap .i64 (8 + (if 7 < (if 0 > a0 then 0 else a0) then 7 else (if 0 > a0 then 0 else a0)))))) w
theorem block_Water.vc {a0 w} {R : Ending → World → Prop} (h : block_Water.pre a0 w R) : Calls Tryd.prog 14 #[.int .i64 a0] w R :=
  calls_of_eq (an := ⟨[], []⟩) (args := [.int .i64 a0]) Tryd.noNG Tryd.mixed Tryd.func14 h (by kernel_rfl)

/- breccia/block.All  -/
def block_All.pre  (w : World) (R : Ending → World → Prop) : Prop :=
 Calls Tryd.prog 27 #[] w (fun e w0 => ∃ (t1 : ByteArray) (t2 : ByteArray) (t3 : ByteArray) (t4 : ByteArray) (t5 : ByteArray) (t6 : ByteArray) (t7 : ByteArray) (t8 : ByteArray) (t9 : ByteArray) (t10 : ByteArray) (t11 : ByteArray) (t12 : ByteArray) (t13 : ByteArray) (t14 : ByteArray) (t15 : ByteArray) (t16 : ByteArray), e = .returned (.agg #[.string t1, .string t2, .string t3, .string t4, .string t5, .string t6, .string t7, .string t8, .string t9, .string t10, .string t11, .string t12, .string t13, .string t14, .string t15, .string t16]) ∧ 
 ∃ I17 : Nat → Int → Sl → World → Prop,
 (∃ n18, I17 n18 (0) ⟨none, 0, 0⟩ w0) ∧
 ∀ (n18 : Nat) (us19 : Nat → Value) (x20 : Int) (s21 : Sl) (w22 : World), I17 n18 x20 s21 w22 →
 Br (decide ((x20 : Int) < 16))
 (((0 : Int) ≤ x20 ∧ (x20 : Int) < ((16 : Nat) : Int)) ∧ ∃ (t24 : ByteArray), ([.string t1, .string t2, .string t3, .string t4, .string t5, .string t6, .string t7, .string t8, .string t9, .string t10, .string t11, .string t12, .string t13, .string t14, .string t15, .string t16] : List Value)[(x20 : Int).toNat * 1]? = some (.string t24) ∧
 Br (!strEq t24 (ByteArray.mk #[]))
 (∀ w25 : World, w25 = w22.alloc (.cells #[.int .i64 x20] 3) →
 AppPre 8 1 w25 ⟨s21.a, s21.n, s21.c⟩ 1 [.int .i64 x20] ∧ ∀ (s26 : Sl) (w27 : World), AppRes 3 1 w25 ⟨s21.a, s21.n, s21.c⟩ 1 [.int .i64 x20] s26 w27 → w27.heap[w22.heap.size]? = w25.heap[w22.heap.size]? ∧ 
 ∃ n23, n23 < n18 ∧ I17 n23 ((IntKind.wrap .i64 (x20 + 1))) ⟨s26.a, s26.n, s26.c⟩ w27)
 (∃ n23, n23 < n18 ∧ I17 n23 ((IntKind.wrap .i64 (x20 + 1))) ⟨s21.a, s21.n, s21.c⟩ w22))
 (R (.returned (.slice s21.a s21.n s21.c)) w22))
theorem block_All.vc {w} {R : Ending → World → Prop} (h : block_All.pre  w R) : Calls Tryd.prog 15 #[] w R :=
  calls_of_eq (an := ⟨[(3, ⟨[(5, .int .i64), (1, .slice)], [], []⟩)], []⟩) (args := []) Tryd.noNG Tryd.mixed Tryd.func15 h (by kernel_rfl)

/- breccia/brecciaref04.Good  -/
def ref04_Good.pre (a0 : Int) (w : World) (R : Ending → World → Prop) : Prop :=
 Calls Tryd.prog 28 #[.int .i64 a0, .int .i64 14] w (fun e w0 => ∃ (x1 : Int), e = .returned (.int .i64 x1) ∧ 
 Br (decide ((x1 : Int) > 5))
 (R (.returned (.int .i64 (IntKind.wrap .i64 (x1 + 2)))) w0)
 (R (.returned (.int .i64 x1)) w0))
theorem ref04_Good.vc {a0 w} {R : Ending → World → Prop} (h : ref04_Good.pre a0 w R) : Calls Tryd.prog 16 #[.int .i64 a0] w R :=
  calls_of_eq (an := ⟨[], []⟩) (args := [.int .i64 a0]) Tryd.noNG Tryd.mixed Tryd.func16 h (by kernel_rfl)

/- breccia/block.Wet  -/
def block_Wet.pre (a0 : Int) (w : World) (R : Ending → World → Prop) : Prop :=
 Br (decide ((a0 : Int) ≥ 8))
 (R (.returned (.bool (decide ((a0 : Int) < 16)))) w)
 (R (.returned (.bool false)) w)
theorem block_Wet.vc {a0 w} {R : Ending → World → Prop} (h : block_Wet.pre a0 w R) : Calls Tryd.prog 17 #[.int .i64 a0] w R :=
  calls_of_eq (an := ⟨[], []⟩) (args := [.int .i64 a0]) Tryd.noNG Tryd.mixed Tryd.func17 h (by kernel_rfl)

/- breccia/block.Level  -/
def block_Level.pre (a0 : Int) (w : World) (R : Ending → World → Prop) : Prop :=
 Calls Tryd.prog 17 #[.int .i64 a0] w (fun e w0 => ∃ (b1 : Bool), e = .returned (.bool b1) ∧ 
 Br (!b1)
 (R (.returned (.int .i64 (-1))) w0)
 (R (.returned (.int .i64 (IntKind.wrap .i64 (a0 - 8)))) w0))
theorem block_Level.vc {a0 w} {R : Ending → World → Prop} (h : block_Level.pre a0 w R) : Calls Tryd.prog 18 #[.int .i64 a0] w R :=
  calls_of_eq (an := ⟨[], []⟩) (args := [.int .i64 a0]) Tryd.noNG Tryd.mixed Tryd.func18 h (by kernel_rfl)

/- breccia/block.Solid  -/
def block_Solid.pre (a0 : Int) (w : World) (R : Ending → World → Prop) : Prop :=
 Br ((a0 : Int) == (-1))
 (Br ((a0 : Int) == (-1))
 (R (.returned (.bool true)) w)
 (R (.returned (.bool false)) w))
 (Br ((a0 : Int) == 1)
 (Br ((a0 : Int) == 1)
 (R (.returned (.bool true)) w)
 (R (.returned (.bool false)) w))
 (Br ((a0 : Int) == 2)
 (Br ((a0 : Int) == 2)
 (R (.returned (.bool true)) w)
 (R (.returned (.bool false)) w))
 (Br ((a0 : Int) == 3)
 (Br ((a0 : Int) == 3)
 (R (.returned (.bool true)) w)
 (R (.returned (.bool false)) w))
 (Br ((a0 : Int) == 5)
 (R (.returned (.bool true)) w)
 (R (.returned (.bool false)) w)))))
theorem block_Solid.vc {a0 w} {R : Ending → World → Prop} (h : block_Solid.pre a0 w R) : Calls Tryd.prog 19 #[.int .i64 a0] w R :=
  calls_of_eq (an := ⟨[], []⟩) (args := [.int .i64 a0]) Tryd.noNG Tryd.mixed Tryd.func19 h (by kernel_rfl)

/- breccia/brecciaref04.Solid  -/
def ref04_Solid.pre (a0 : Int) (w : World) (R : Ending → World → Prop) : Prop :=
 Br ((a0 : Int) == (-1))
 (R (.returned (.bool true)) w)
 (Br ((a0 : Int) == 1)
 (R (.returned (.bool true)) w)
 (Br ((a0 : Int) == 2)
 (R (.returned (.bool true)) w)
 (Br ((a0 : Int) == 3)
 (R (.returned (.bool true)) w)
 (R (.returned (.bool ((a0 : Int) == 5))) w))))
theorem ref04_Solid.vc {a0 w} {R : Ending → World → Prop} (h : ref04_Solid.pre a0 w R) : Calls Tryd.prog 20 #[.int .i64 a0] w R :=
  calls_of_eq (an := ⟨[], []⟩) (args := [.int .i64 a0]) Tryd.noNG Tryd.mixed Tryd.func20 h (by kernel_rfl)

/- breccia/brecciaref04.Wet  -/
def ref04_Wet.pre (a0 : Int) (w : World) (R : Ending → World → Prop) : Prop :=
 Br (decide ((a0 : Int) ≥ 8))
 (R (.returned (.bool (decide ((a0 : Int) ≤ 15)))) w)
 (R (.returned (.bool false)) w)
theorem ref04_Wet.vc {a0 w} {R : Ending → World → Prop} (h : ref04_Wet.pre a0 w R) : Calls Tryd.prog 21 #[.int .i64 a0] w R :=
  calls_of_eq (an := ⟨[], []⟩) (args := [.int .i64 a0]) Tryd.noNG Tryd.mixed Tryd.func21 h (by kernel_rfl)

/- breccia/block.Yields  -/
def block_Yields.pre (a0 : Int) (w : World) (R : Ending → World → Prop) : Prop :=
 Br ((a0 : Int) == 0)
 (R (.returned (.bool true)) w)
 (Calls Tryd.prog 17 #[.int .i64 a0] w (fun e w0 => ∃ (b1 : Bool), e = .returned (.bool b1) ∧ 
 R (.returned (.bool b1)) w0))
theorem block_Yields.vc {a0 w} {R : Ending → World → Prop} (h : block_Yields.pre a0 w R) : Calls Tryd.prog 22 #[.int .i64 a0] w R :=
  calls_of_eq (an := ⟨[], []⟩) (args := [.int .i64 a0]) Tryd.noNG Tryd.mixed Tryd.func22 h (by kernel_rfl)

/- breccia/brecciaref04.Yields  -/
def ref04_Yields.pre (a0 : Int) (w : World) (R : Ending → World → Prop) : Prop :=
 Br ((a0 : Int) == 0)
 (R (.returned (.bool true)) w)
 (Calls Tryd.prog 21 #[.int .i64 a0] w (fun e w0 => ∃ (b1 : Bool), e = .returned (.bool b1) ∧ 
 R (.returned (.bool b1)) w0))
theorem ref04_Yields.vc {a0 w} {R : Ending → World → Prop} (h : ref04_Yields.pre a0 w R) : Calls Tryd.prog 23 #[.int .i64 a0] w R :=
  calls_of_eq (an := ⟨[], []⟩) (args := [.int .i64 a0]) Tryd.noNG Tryd.mixed Tryd.func23 h (by kernel_rfl)

/- breccia/block.Falls  -/
def block_Falls.pre (a0 : Int) (w : World) (R : Ending → World → Prop) : Prop :=
 R (.returned (.bool ((a0 : Int) == 3))) w
theorem block_Falls.vc {a0 w} {R : Ending → World → Prop} (h : block_Falls.pre a0 w R) : Calls Tryd.prog 24 #[.int .i64 a0] w R :=
  calls_of_eq (an := ⟨[], []⟩) (args := [.int .i64 a0]) Tryd.noNG Tryd.mixed Tryd.func24 h (by kernel_rfl)

/- breccia/block.Climbs  -/
def block_Climbs.pre (a0 : Int) (w : World) (R : Ending → World → Prop) : Prop :=
 R (.returned (.bool ((a0 : Int) == 4))) w
theorem block_Climbs.vc {a0 w} {R : Ending → World → Prop} (h : block_Climbs.pre a0 w R) : Calls Tryd.prog 25 #[.int .i64 a0] w R :=
  calls_of_eq (an := ⟨[], []⟩) (args := [.int .i64 a0]) Tryd.noNG Tryd.mixed Tryd.func25 h (by kernel_rfl)

/- breccia/brecciaref04.Level  -/
def ref04_Level.pre (a0 : Int) (w : World) (R : Ending → World → Prop) : Prop :=
 Calls Tryd.prog 21 #[.int .i64 a0] w (fun e w0 => ∃ (b1 : Bool), e = .returned (.bool b1) ∧ 
 Br b1
 (R (.returned (.int .i64 (IntKind.wrap .i64 (a0 - 8)))) w0)
 (R (.returned (.int .i64 (-1))) w0))
theorem ref04_Level.vc {a0 w} {R : Ending → World → Prop} (h : ref04_Level.pre a0 w R) : Calls Tryd.prog 26 #[.int .i64 a0] w R :=
  calls_of_eq (an := ⟨[], []⟩) (args := [.int .i64 a0]) Tryd.noNG Tryd.mixed Tryd.func26 h (by kernel_rfl)

/- breccia/block.names  -/
def block_names.pre  (w : World) (R : Ending → World → Prop) : Prop :=
 ∀ w0 : World, w0 = w.alloc (.cells #[.string (ByteArray.mk #[]), .string (ByteArray.mk #[]), .string (ByteArray.mk #[]), .string (ByteArray.mk #[]), .string (ByteArray.mk #[]), .string (ByteArray.mk #[]), .string (ByteArray.mk #[]), .string (ByteArray.mk #[]), .string (ByteArray.mk #[]), .string (ByteArray.mk #[]), .string (ByteArray.mk #[]), .string (ByteArray.mk #[]), .string (ByteArray.mk #[]), .string (ByteArray.mk #[]), .string (ByteArray.mk #[]), .string (ByteArray.mk #[])] 32) →
 ∀ w1 : World, w1 = w0.alloc (.cells #[.string (ByteArray.mk #[]), .string (ByteArray.mk #[]), .string (ByteArray.mk #[]), .string (ByteArray.mk #[]), .string (ByteArray.mk #[]), .string (ByteArray.mk #[]), .string (ByteArray.mk #[]), .string (ByteArray.mk #[]), .string (ByteArray.mk #[]), .string (ByteArray.mk #[]), .string (ByteArray.mk #[]), .string (ByteArray.mk #[]), .string (ByteArray.mk #[]), .string (ByteArray.mk #[]), .string (ByteArray.mk #[]), .string (ByteArray.mk #[])] 32) →
 (true = true ∧ Wr w1 (some ⟨w0.heap.size, 0, none⟩) 16) ∧ (∀ w2 : World, w2 = setP w1 (some ⟨w0.heap.size, 0, none⟩) [.string (ByteArray.mk #[97, 105, 114]), .string (ByteArray.mk #[115, 116, 111, 110, 101]), .string (ByteArray.mk #[100, 105, 114, 116]), .string (ByteArray.mk #[115, 97, 110, 100]), .string (ByteArray.mk #[108, 97, 100, 100, 101, 114]), .string (ByteArray.mk #[103, 108, 97, 115, 115]), .string (ByteArray.mk #[]), .string (ByteArray.mk #[]), .string (ByteArray.mk #[]), .string (ByteArray.mk #[]), .string (ByteArray.mk #[]), .string (ByteArray.mk #[]), .string (ByteArray.mk #[]), .string (ByteArray.mk #[]), .string (ByteArray.mk #[]), .string (ByteArray.mk #[])] →
 ∃ I3 : Nat → Int → World → Prop,
 (∃ n4, I3 n4 (0) w2) ∧
 ∀ (n4 : Nat) (us5 : Nat → Value) (x6 : Int) (w7 : World), I3 n4 x6 w7 →
 Br (decide ((x6 : Int) < 8))
 (Calls Tryd.prog 29 #[.int .i64 x6] w7 (fun e w9 => ∃ (t10 : ByteArray), e = .returned (.string t10) ∧ 
 ((((ByteArray.mk #[119, 97, 116, 101, 114])).size + (t10).size : Nat) : Int) ≤ IntKind.i64.max ∧ (0 : Int) ≤ (IntKind.wrap .i64 (8 + x6)) ∧ ((IntKind.wrap .i64 (8 + x6)) : Int) < ((16 : Nat) : Int) ∧ (true = true ∧ Wr w9 (padd (some ⟨w0.heap.size, 0, none⟩) (((IntKind.wrap .i64 (8 + x6)) : Int).toNat * 1)) 1) ∧ (∀ w11 : World, w11 = setP w9 (padd (some ⟨w0.heap.size, 0, none⟩) (((IntKind.wrap .i64 (8 + x6)) : Int).toNat * 1)) [.string ((ByteArray.mk #[119, 97, 116, 101, 114]) ++ t10)] →
 ∃ n8, n8 < n4 ∧ I3 n8 ((IntKind.wrap .i64 (x6 + 1))) w11)))
 (∃ (t12 : ByteArray) (t13 : ByteArray) (t14 : ByteArray) (t15 : ByteArray) (t16 : ByteArray) (t17 : ByteArray) (t18 : ByteArray) (t19 : ByteArray) (t20 : ByteArray) (t21 : ByteArray) (t22 : ByteArray) (t23 : ByteArray) (t24 : ByteArray) (t25 : ByteArray) (t26 : ByteArray) (t27 : ByteArray), LoadL w7 (some ⟨w0.heap.size, 0, none⟩) 0 [.string t12, .string t13, .string t14, .string t15, .string t16, .string t17, .string t18, .string t19, .string t20, .string t21, .string t22, .string t23, .string t24, .string t25, .string t26, .string t27] ∧
 (true = true ∧ Wr w7 (some ⟨w.heap.size, 0, none⟩) 16) ∧ (∀ w28 : World, w28 = setP w7 (some ⟨w.heap.size, 0, none⟩) [.string t12, .string t13, .string t14, .string t15, .string t16, .string t17, .string t18, .string t19, .string t20, .string t21, .string t22, .string t23, .string t24, .string t25, .string t26, .string t27] →
 ∃ (t29 : ByteArray) (t30 : ByteArray) (t31 : ByteArray) (t32 : ByteArray) (t33 : ByteArray) (t34 : ByteArray) (t35 : ByteArray) (t36 : ByteArray) (t37 : ByteArray) (t38 : ByteArray) (t39 : ByteArray) (t40 : ByteArray) (t41 : ByteArray) (t42 : ByteArray) (t43 : ByteArray) (t44 : ByteArray), LoadL w28 (some ⟨w.heap.size, 0, none⟩) 0 [.string t29, .string t30, .string t31, .string t32, .string t33, .string t34, .string t35, .string t36, .string t37, .string t38, .string t39, .string t40, .string t41, .string t42, .string t43, .string t44] ∧
 R (.returned (.agg #[.string t29, .string t30, .string t31, .string t32, .string t33, .string t34, .string t35, .string t36, .string t37, .string t38, .string t39, .string t40, .string t41, .string t42, .string t43, .string t44])) w28)))
theorem block_names.vc {w} {R : Ending → World → Prop} (h : block_names.pre  w R) : Calls Tryd.prog 27 #[] w R :=
  calls_of_eq (an := ⟨[(3, ⟨[(4, .int .i64)], [], []⟩)], []⟩) (args := []) Tryd.noNG Tryd.mixed Tryd.func27 h (by kernel_rfl)

/- breccia/brecciaref01.Around  -/
def ref01_Around.pre (a0 : Int) (a1 : Int) (w : World) (R : Ending → World → Prop) : Prop :=
 Br (decide ((a0 : Int) < 0))
 (AndL (nzC a1) (R (.returned (.int .i64 (Int.tmod (IntKind.wrap .i64 (0 - (IntKind.wrap .i64 (a0 + 1)))) a1))) w))
 (AndL (nzC a1) (R (.returned (.int .i64 (Int.tmod a0 a1))) w))
theorem ref01_Around.vc {a0 a1 w} {R : Ending → World → Prop} (h : ref01_Around.pre a0 a1 w R) : Calls Tryd.prog 28 #[.int .i64 a0, .int .i64 a1] w R :=
  calls_of_eq (an := ⟨[], []⟩) (args := [.int .i64 a0, .int .i64 a1]) Tryd.noNG Tryd.mixed Tryd.func28 h (by kernel_rfl)

/- strconv.Itoa  -/
def strconv_Itoa.pre (a0 : Int) (w : World) (R : Ending → World → Prop) : Prop :=
 Calls Tryd.prog 30 #[.int .i64 a0] w (fun e w0 => ∃ (t1 : ByteArray), e = .returned (.string t1) ∧ 
 R (.returned (.string t1)) w0)
theorem strconv_Itoa.vc {a0 w} {R : Ending → World → Prop} (h : strconv_Itoa.pre a0 w R) : Calls Tryd.prog 29 #[.int .i64 a0] w R :=
  calls_of_eq (an := ⟨[], []⟩) (args := [.int .i64 a0]) Tryd.noNG Tryd.mixed Tryd.func29 h (by kernel_rfl)

/- internal/strconv.Itoa  -/
def internal_strconv_Itoa.pre (a0 : Int) (w : World) (R : Ending → World → Prop) : Prop :=
 Calls Tryd.prog 31 #[.int .i64 a0, .int .i64 10] w (fun e w0 => ∃ (t1 : ByteArray), e = .returned (.string t1) ∧ 
 R (.returned (.string t1)) w0)
theorem internal_strconv_Itoa.vc {a0 w} {R : Ending → World → Prop} (h : internal_strconv_Itoa.pre a0 w R) : Calls Tryd.prog 30 #[.int .i64 a0] w R :=
  calls_of_eq (an := ⟨[], []⟩) (args := [.int .i64 a0]) Tryd.noNG Tryd.mixed Tryd.func30 h (by kernel_rfl)

/- internal/strconv.small  -/
def internal_strconv_small.pre (a0 : Int) (w : World) (R : Ending → World → Prop) : Prop :=
 Br (decide ((a0 : Int) < 10))
 ((0 : Int) ≤ (IntKind.wrap .i64 (a0 + 1)) ∧ (IntKind.wrap .i64 (a0 + 1)) ≤ ((((ByteArray.mk #[48, 49, 50, 51, 52, 53, 54, 55, 56, 57, 97, 98, 99, 100, 101, 102, 103, 104, 105, 106, 107, 108, 109, 110, 111, 112, 113, 114, 115, 116, 117, 118, 119, 120, 121, 122])).size : Nat) : Int) ∧ (0 : Int) ≤ a0 ∧ (a0 : Int) ≤ (IntKind.wrap .i64 (a0 + 1)) ∧ R (.returned (.string (((ByteArray.mk #[48, 49, 50, 51, 52, 53, 54, 55, 56, 57, 97, 98, 99, 100, 101, 102, 103, 104, 105, 106, 107, 108, 109, 110, 111, 112, 113, 114, 115, 116, 117, 118, 119, 120, 121, 122])).extract ((a0 : Int).toNat) (((IntKind.wrap .i64 (a0 + 1)) : Int).toNat)))) w)
 ((0 : Int) ≤ (IntKind.wrap .i64 ((IntKind.wrap .i64 (a0 * 2)) + 2)) ∧ (IntKind.wrap .i64 ((IntKind.wrap .i64 (a0 * 2)) + 2)) ≤ ((((ByteArray.mk #[48, 48, 48, 49, 48, 50, 48, 51, 48, 52, 48, 53, 48, 54, 48, 55, 48, 56, 48, 57, 49, 48, 49, 49, 49, 50, 49, 51, 49, 52, 49, 53, 49, 54, 49, 55, 49, 56, 49, 57, 50, 48, 50, 49, 50, 50, 50, 51, 50, 52, 50, 53, 50, 54, 50, 55, 50, 56, 50, 57, 51, 48, 51, 49, 51, 50, 51, 51, 51, 52, 51, 53, 51, 54, 51, 55, 51, 56, 51, 57, 52, 48, 52, 49, 52, 50, 52, 51, 52, 52, 52, 53, 52, 54, 52, 55, 52, 56, 52, 57, 53, 48, 53, 49, 53, 50, 53, 51, 53, 52, 53, 53, 53, 54, 53, 55, 53, 56, 53, 57, 54, 48, 54, 49, 54, 50, 54, 51, 54, 52, 54, 53, 54, 54, 54, 55, 54, 56, 54, 57, 55, 48, 55, 49, 55, 50, 55, 51, 55, 52, 55, 53, 55, 54, 55, 55, 55, 56, 55, 57, 56, 48, 56, 49, 56, 50, 56, 51, 56, 52, 56, 53, 56, 54, 56, 55, 56, 56, 56, 57, 57, 48, 57, 49, 57, 50, 57, 51, 57, 52, 57, 53, 57, 54, 57, 55, 57, 56, 57, 57])).size : Nat) : Int) ∧ (0 : Int) ≤ (IntKind.wrap .i64 (a0 * 2)) ∧ ((IntKind.wrap .i64 (a0 * 2)) : Int) ≤ (IntKind.wrap .i64 ((IntKind.wrap .i64 (a0 * 2)) + 2)) ∧ R (.returned (.string (((ByteArray.mk #[48, 48, 48, 49, 48, 50, 48, 51, 48, 52, 48, 53, 48, 54, 48, 55, 48, 56, 48, 57, 49, 48, 49, 49, 49, 50, 49, 51, 49, 52, 49, 53, 49, 54, 49, 55, 49, 56, 49, 57, 50, 48, 50, 49, 50, 50, 50, 51, 50, 52, 50, 53, 50, 54, 50, 55, 50, 56, 50, 57, 51, 48, 51, 49, 51, 50, 51, 51, 51, 52, 51, 53, 51, 54, 51, 55, 51, 56, 51, 57, 52, 48, 52, 49, 52, 50, 52, 51, 52, 52, 52, 53, 52, 54, 52, 55, 52, 56, 52, 57, 53, 48, 53, 49, 53, 50, 53, 51, 53, 52, 53, 53, 53, 54, 53, 55, 53, 56, 53, 57, 54, 48, 54, 49, 54, 50, 54, 51, 54, 52, 54, 53, 54, 54, 54, 55, 54, 56, 54, 57, 55, 48, 55, 49, 55, 50, 55, 51, 55, 52, 55, 53, 55, 54, 55, 55, 55, 56, 55, 57, 56, 48, 56, 49, 56, 50, 56, 51, 56, 52, 56, 53, 56, 54, 56, 55, 56, 56, 56, 57, 57, 48, 57, 49, 57, 50, 57, 51, 57, 52, 57, 53, 57, 54, 57, 55, 57, 56, 57, 57])).extract (((IntKind.wrap .i64 (a0 * 2)) : Int).toNat) (((IntKind.wrap .i64 ((IntKind.wrap .i64 (a0 * 2)) + 2)) : Int).toNat)))) w)
theorem internal_strconv_small.vc {a0 w} {R : Ending → World → Prop} (h : internal_strconv_small.pre a0 w R) : Calls Tryd.prog 32 #[.int .i64 a0] w R :=
  calls_of_eq (an := ⟨[], []⟩) (args := [.int .i64 a0]) Tryd.noNG Tryd.mixed Tryd.func32 h (by kernel_rfl)


end Go.Proofs.YtdjjlmoiifpceaaDoor
