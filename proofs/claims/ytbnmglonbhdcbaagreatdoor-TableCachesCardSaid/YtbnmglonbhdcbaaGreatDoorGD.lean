import Derived.Test.YtbnmglonbhdcbaaGreatDoorGS
set_option linter.all false
namespace Go.Proofs.YtbnmglonbhdcbaaGreatDoor
open Go Go.Vc Go.RowKit Go.Proofs
set_option maxRecDepth 100000
set_option maxHeartbeats 8000000
set_option linter.unusedVariables false
abbrev n_law12_div : FuncId := 23
abbrev n_law12_TableDirty : FuncId := 7
/- breccia/breccialaw12.div  -/
def law12_div.pre (a0 : Int) (w : World) (R : Ending → World → Prop) : Prop :=
 Calls Tryz.prog 56 #[.int .i64 a0, .int .i64 16] w (fun e w0 => ∃ (x1 : Int), e = .returned (.int .i64 x1) ∧ 
 R (.returned (.int .i64 x1)) w0)
theorem law12_div.vc {a0 w} {R : Ending → World → Prop} (h : law12_div.pre a0 w R) : Calls Tryz.prog n_law12_div #[.int .i64 a0] w R :=
  calls_of_eq (an := ⟨[], [], []⟩) (args := [.int .i64 a0]) Tryz.noNG Tryz.mixed Tryz.func23 h (by kernel_rfl)

/- breccia/breccialaw12.TableDirty  -/
def law12_TableDirty.pre (a0 : Int) (a1 : Sl) (w : World) (R : Ending → World → Prop) : Prop :=
 Calls Tryz.prog 20 #[.int .i64 a0, .int .i64 2, .int .i64 100000] w (fun e w0 => ∃ (p1 : Option Addr), e = .returned (.pointer p1) ∧ 
 Br (p1).isNone
 (R (.returned (.bool false)) w0)
 (∀ w2 : World, w2 = w0.alloc (.cells #[.int .i64 0, .int .i64 0] 42) →
 ∀ w3 : World, w3 = w2.setRow w0.heap.size #[.int .i64 0, .int .i64 0] →
 Calls Tryz.prog 34 #[.pointer p1, .agg #[.int .i64 0, .int .i64 0]] w3 (fun e w4 => ∃ (b5 : Bool), e = .returned (.bool b5) ∧ w4.heap[w0.heap.size]? = w3.heap[w0.heap.size]? ∧ 
 Br b5
 (R (.returned (.bool false)) w4)
 (Calls Tryz.prog 24 #[.pointer p1, .agg #[.int .i64 0, .int .i64 0]] w4 (fun e w6 => ∃ (x7 : Int), e = .returned (.int .i64 x7) ∧ w6.heap[w0.heap.size]? = w4.heap[w0.heap.size]? ∧ 
 Br ((x7 : Int) != 0)
 (R (.returned (.bool false)) w6)
 (Calls Tryz.prog 34 #[.pointer p1, .agg #[.int .i64 0, .int .i64 0]] w6 (fun e w8 => ∃ (b9 : Bool), e = .returned (.bool b9) ∧ w8.heap[w0.heap.size]? = w6.heap[w0.heap.size]? ∧ 
 Br b9
 (R (.returned (.bool false)) w8)
 (∃ I10 : Nat → Int → Bool → World → Prop,
 (∃ n11, ([.int .i64 0, .int .i64 0] : List Value) = [.int .i64 0, .int .i64 0] ∧ I10 n11 (0) false w8) ∧
 ∀ (n11 : Nat) (us12 : Nat → Value) (x13 : Int) (b14 : Bool) (w15 : World), I10 n11 x13 b14 w15 →
 Br (decide ((x13 : Int) < ((a1.n : Nat) : Int)))
 (Br (decide ((x13 : Int) < 8))
 (∃ J17 : Option Addr → World → Prop,
 (InB a1.a x13 a1.n ∧ AndL (nnC (padd a1.a ((x13 : Int).toNat * 9))) (AndL (nnC (padd (padd a1.a ((x13 : Int).toNat * 9)) 3)) (∃ (x18 : Int), ld w15.drew (padd (padd (padd a1.a ((x13 : Int).toNat * 9)) 3) 0) = some (.int .i64 x18) ∧
 InB a1.a x13 a1.n ∧ AndL (nnC (padd a1.a ((x13 : Int).toNat * 9))) (AndL (nnC (padd (padd a1.a ((x13 : Int).toNat * 9)) 3)) (∃ (x19 : Int), ld w15.drew (padd (padd (padd a1.a ((x13 : Int).toNat * 9)) 3) 1) = some (.int .i64 x19) ∧
 InB a1.a x13 a1.n ∧ AndL (nnC (padd a1.a ((x13 : Int).toNat * 9))) (AndL (nnC (padd (padd a1.a ((x13 : Int).toNat * 9)) 3)) (∃ (x20 : Int), ld w15.drew (padd (padd (padd a1.a ((x13 : Int).toNat * 9)) 3) 2) = some (.int .i64 x20) ∧
 (Calls Tryz.prog 15 #[.int .i64 x18, .int .i64 16] w15.drew (fun e w21 => ∃ (x22 : Int), e = .returned (.int .i64 x22) ∧ w21.heap[w0.heap.size]? = w15.drew.heap[w0.heap.size]? ∧ 
 LoadL w21 (padd (padd (padd a1.a ((x13 : Int).toNat * 9)) 3) 2) 0 [.int .i64 x20] ∧ LoadL w21 (padd (padd (padd a1.a ((x13 : Int).toNat * 9)) 3) 1) 0 [.int .i64 x19] ∧ (Calls Tryz.prog 15 #[.int .i64 x19, .int .i64 32] w21 (fun e w23 => ∃ (x24 : Int), e = .returned (.int .i64 x24) ∧ w23.heap[w0.heap.size]? = w21.heap[w0.heap.size]? ∧ 
 LoadL w23 (padd (padd (padd a1.a ((x13 : Int).toNat * 9)) 3) 2) 0 [.int .i64 x20] ∧ (Calls Tryz.prog 15 #[.int .i64 x20, .int .i64 16] w23 (fun e w25 => ∃ (x26 : Int), e = .returned (.int .i64 x26) ∧ w25.heap[w0.heap.size]? = w23.heap[w0.heap.size]? ∧ 
 (∀ w27 : World, w27 = w25.alloc (.cells #[.int .i64 0, .int .i64 0, .int .i64 0] 26) →
 ∀ w28 : World, w28 = w27.setRow w25.heap.size #[.int .i64 x22, .int .i64 x24, .int .i64 x26] →
 ([.int .i64 0, .int .i64 0] : List Value) = [.int .i64 0, .int .i64 0] ∧ J17 (some ⟨w25.heap.size, 0, none⟩) w28) ∧ (∀ w29 : World, w29 = w25.alloc (.cells #[.int .i64 0, .int .i64 0, .int .i64 0] 26) →
 ∀ w30 : World, w30 = w29.setRow w25.heap.size #[.int .i64 x22, .int .i64 x24, .int .i64 x26] →
 ([.int .i64 0, .int .i64 0] : List Value) = [.int .i64 0, .int .i64 0] ∧ J17 (some ⟨w25.heap.size, 0, none⟩) w30))) ∧ (∀ w31 : World, w31 = w23.alloc (.cells #[.int .i64 0, .int .i64 0, .int .i64 0] 26) →
 Calls Tryz.prog 15 #[.int .i64 x20, .int .i64 16] w31 (fun e w32 => ∃ (x33 : Int), e = .returned (.int .i64 x33) ∧ w32.heap[w0.heap.size]? = w31.heap[w0.heap.size]? ∧ w32.heap[w23.heap.size]? = w31.heap[w23.heap.size]? ∧ 
 ∀ w34 : World, w34 = w32.setRow w23.heap.size #[.int .i64 x22, .int .i64 x24, .int .i64 x33] →
 ([.int .i64 0, .int .i64 0] : List Value) = [.int .i64 0, .int .i64 0] ∧ J17 (some ⟨w23.heap.size, 0, none⟩) w34)))) ∧ (∀ w35 : World, w35 = w21.alloc (.cells #[.int .i64 0, .int .i64 0, .int .i64 0] 26) →
 Calls Tryz.prog 15 #[.int .i64 x19, .int .i64 32] w35 (fun e w36 => ∃ (x37 : Int), e = .returned (.int .i64 x37) ∧ w36.heap[w0.heap.size]? = w35.heap[w0.heap.size]? ∧ w36.heap[w21.heap.size]? = w35.heap[w21.heap.size]? ∧ 
 LoadL w36 (padd (padd (padd a1.a ((x13 : Int).toNat * 9)) 3) 2) 0 [.int .i64 x20] ∧ Calls Tryz.prog 15 #[.int .i64 x20, .int .i64 16] w36 (fun e w38 => ∃ (x39 : Int), e = .returned (.int .i64 x39) ∧ w38.heap[w0.heap.size]? = w36.heap[w0.heap.size]? ∧ w38.heap[w21.heap.size]? = w36.heap[w21.heap.size]? ∧ 
 ∀ w40 : World, w40 = w38.setRow w21.heap.size #[.int .i64 x22, .int .i64 x37, .int .i64 x39] →
 ([.int .i64 0, .int .i64 0] : List Value) = [.int .i64 0, .int .i64 0] ∧ J17 (some ⟨w21.heap.size, 0, none⟩) w40))))) ∧ (∀ w41 : World, w41 = w15.drew.alloc (.cells #[.int .i64 0, .int .i64 0, .int .i64 0] 26) →
 Calls Tryz.prog 15 #[.int .i64 x18, .int .i64 16] w41 (fun e w42 => ∃ (x43 : Int), e = .returned (.int .i64 x43) ∧ w42.heap[w0.heap.size]? = w41.heap[w0.heap.size]? ∧ w42.heap[w15.drew.heap.size]? = w41.heap[w15.drew.heap.size]? ∧ 
 LoadL w42 (padd (padd (padd a1.a ((x13 : Int).toNat * 9)) 3) 2) 0 [.int .i64 x20] ∧ LoadL w42 (padd (padd (padd a1.a ((x13 : Int).toNat * 9)) 3) 1) 0 [.int .i64 x19] ∧ Calls Tryz.prog 15 #[.int .i64 x19, .int .i64 32] w42 (fun e w44 => ∃ (x45 : Int), e = .returned (.int .i64 x45) ∧ w44.heap[w0.heap.size]? = w42.heap[w0.heap.size]? ∧ w44.heap[w15.drew.heap.size]? = w42.heap[w15.drew.heap.size]? ∧ 
 LoadL w44 (padd (padd (padd a1.a ((x13 : Int).toNat * 9)) 3) 2) 0 [.int .i64 x20] ∧ Calls Tryz.prog 15 #[.int .i64 x20, .int .i64 16] w44 (fun e w46 => ∃ (x47 : Int), e = .returned (.int .i64 x47) ∧ w46.heap[w0.heap.size]? = w44.heap[w0.heap.size]? ∧ w46.heap[w15.drew.heap.size]? = w44.heap[w15.drew.heap.size]? ∧ 
 ∀ w48 : World, w48 = w46.setRow w15.drew.heap.size #[.int .i64 x43, .int .i64 x45, .int .i64 x47] →
 ([.int .i64 0, .int .i64 0] : List Value) = [.int .i64 0, .int .i64 0] ∧ J17 (some ⟨w15.drew.heap.size, 0, none⟩) w48))))))))))) ∧
 ∀ us49 : Nat → Value, ∀ (p50 : Option Addr) (w51 : World), J17 p50 w51 →
 InB a1.a x13 a1.n ∧ AndL (nnC (padd a1.a ((x13 : Int).toNat * 9))) (∃ (x52 : Int), ld w51 (padd (padd a1.a ((x13 : Int).toNat * 9)) 6) = some (.int .i64 x52) ∧
 Calls Tryz.prog 22 #[.int .i64 x52] w51 (fun e w53 => ∃ (x54 : Int), e = .returned (.int .i64 x54) ∧ w53.heap[w0.heap.size]? = w51.heap[w0.heap.size]? ∧ 
 ∃ (x55 : Int) (x56 : Int) (x57 : Int), LoadL w53 p50 0 [.int .i64 x55, .int .i64 x56, .int .i64 x57] ∧
 Calls Tryz.prog 27 #[.pointer p1, .agg #[.int .i64 x55, .int .i64 x56, .int .i64 x57]] w53 (fun e w58 => ∃ (x59 : Int), e = .returned (.int .i64 x59) ∧ w58.heap[w0.heap.size]? = w53.heap[w0.heap.size]? ∧ 
 ∃ (x60 : Int) (x61 : Int) (x62 : Int), LoadL w58 p50 0 [.int .i64 x60, .int .i64 x61, .int .i64 x62] ∧
 Calls Tryz.prog 25 #[.pointer p1, .agg #[.int .i64 x60, .int .i64 x61, .int .i64 x62], .int .i64 x54] w58 (fun e w63 => ∃ (x64 : Int), e = .returned (.int .i64 x64) ∧ w63.heap[w0.heap.size]? = w58.heap[w0.heap.size]? ∧ 
 Br ((x64 : Int) != 0)
 (R (.returned (.bool false)) w63)
 (∃ (x65 : Int) (x66 : Int) (x67 : Int), LoadL w63 p50 0 [.int .i64 x65, .int .i64 x66, .int .i64 x67] ∧
 Calls Tryz.prog 27 #[.pointer p1, .agg #[.int .i64 x65, .int .i64 x66, .int .i64 x67]] w63 (fun e w68 => ∃ (x69 : Int), e = .returned (.int .i64 x69) ∧ w68.heap[w0.heap.size]? = w63.heap[w0.heap.size]? ∧ 
 Br ((x69 : Int) != x54)
 (R (.returned (.bool false)) w68)
 (∃ J70 : Bool → World → Prop,
 (Br b14
 (([.int .i64 0, .int .i64 0] : List Value) = [.int .i64 0, .int .i64 0] ∧ J70 true w68)
 (([.int .i64 0, .int .i64 0] : List Value) = [.int .i64 0, .int .i64 0] ∧ J70 ((x59 : Int) != x54) w68)) ∧
 ∀ us71 : Nat → Value, ∀ (b72 : Bool) (w73 : World), J70 b72 w73 →
 Calls Tryz.prog 34 #[.pointer p1, .agg #[.int .i64 0, .int .i64 0]] w73 (fun e w74 => ∃ (b75 : Bool), e = .returned (.bool b75) ∧ w74.heap[w0.heap.size]? = w73.heap[w0.heap.size]? ∧ 
 Br (!(b75 == b72))
 (R (.returned (.bool false)) w74)
 (InB a1.a x13 a1.n ∧ AndL (nnC (padd a1.a ((x13 : Int).toNat * 9))) (∃ (x76 : Int), ld w74 (padd (padd a1.a ((x13 : Int).toNat * 9)) 7) = some (.int .i64 x76) ∧
 Br (((Int.tmod x76 2) : Int) == 0)
 (Calls Tryz.prog 35 #[.pointer p1, .agg #[.int .i64 0, .int .i64 0]] w74 (fun e w77 => ∃ (x78 : Int), e = .returned (.int .i64 x78) ∧ w77.heap[w0.heap.size]? = w74.heap[w0.heap.size]? ∧ 
 Br ((x78 : Int) != 0)
 (R (.returned (.bool false)) w77)
 (Calls Tryz.prog 34 #[.pointer p1, .agg #[.int .i64 0, .int .i64 0]] w77 (fun e w79 => ∃ (b80 : Bool), e = .returned (.bool b80) ∧ w79.heap[w0.heap.size]? = w77.heap[w0.heap.size]? ∧ 
 Br b80
 (R (.returned (.bool false)) w79)
 (∃ n16, n16 < n11 ∧ ([.int .i64 0, .int .i64 0] : List Value) = [.int .i64 0, .int .i64 0] ∧ I10 n16 ((IntKind.wrap .i64 (x13 + 1))) false w79)))))
 (∃ n16, n16 < n11 ∧ ([.int .i64 0, .int .i64 0] : List Value) = [.int .i64 0, .int .i64 0] ∧ I10 n16 ((IntKind.wrap .i64 (x13 + 1))) b72 w74))))))))))))
 (Calls Tryz.prog 36 #[.pointer p1] w15 (fun e w81 => ∃ (x82 : Int) (x83 : Int), e = .returned (.tuple #[.int .i64 x82, .int .i64 x83]) ∧ w81.heap[w0.heap.size]? = w15.heap[w0.heap.size]? ∧ 
 Br (((x82 : Int) == 1) == b14)
 (Br ((x83 : Int) == 0)
 (Calls Tryz.prog 34 #[.pointer p1, .agg #[.int .i64 0, .int .i64 0]] w81 (fun e w84 => ∃ (b85 : Bool), e = .returned (.bool b85) ∧ w84.heap[w0.heap.size]? = w81.heap[w0.heap.size]? ∧ 
 Br (!b85)
 (Calls Tryz.prog 28 #[] w84 (fun e w86 => ∃ (b87 : Bool), e = .returned (.bool b87) ∧ w86.heap[w0.heap.size]? = w84.heap[w0.heap.size]? ∧ 
 R (.returned (.bool b87)) w86))
 (R (.returned (.bool false)) w84)))
 (R (.returned (.bool false)) w81))
 (R (.returned (.bool false)) w81))))
 (Calls Tryz.prog 36 #[.pointer p1] w15 (fun e w88 => ∃ (x89 : Int) (x90 : Int), e = .returned (.tuple #[.int .i64 x89, .int .i64 x90]) ∧ w88.heap[w0.heap.size]? = w15.heap[w0.heap.size]? ∧ 
 Br (((x89 : Int) == 1) == b14)
 (Br ((x90 : Int) == 0)
 (Calls Tryz.prog 34 #[.pointer p1, .agg #[.int .i64 0, .int .i64 0]] w88 (fun e w91 => ∃ (b92 : Bool), e = .returned (.bool b92) ∧ w91.heap[w0.heap.size]? = w88.heap[w0.heap.size]? ∧ 
 Br (!b92)
 (Calls Tryz.prog 28 #[] w91 (fun e w93 => ∃ (b94 : Bool), e = .returned (.bool b94) ∧ w93.heap[w0.heap.size]? = w91.heap[w0.heap.size]? ∧ 
 R (.returned (.bool b94)) w93))
 (R (.returned (.bool false)) w91)))
 (R (.returned (.bool false)) w88))
 (R (.returned (.bool false)) w88)))))))))))
theorem law12_TableDirty.vc {a0 a1 w} {R : Ending → World → Prop} (h : law12_TableDirty.pre a0 a1 w R) : Calls Tryz.prog n_law12_TableDirty #[.int .i64 a0, .slice a1.a a1.n a1.c] w R :=
  calls_of_eq (an := ⟨[(9, ⟨[(8, .int .i64), (7, .bool)], [], []⟩)], [(17, ⟨[(7, .bool)], [], []⟩), (12, ⟨[(9, .ptr)], [], []⟩)], []⟩) (args := [.int .i64 a0, .slice a1.a a1.n a1.c]) Tryz.noNG Tryz.mixed Tryz.func7 h (by kernel_rfl)


end Go.Proofs.YtbnmglonbhdcbaaGreatDoor
