import Derived.Test.YtbnmglonbhdcbaaGreatDoorGD
set_option linter.all false
namespace Go.Proofs.YtbnmglonbhdcbaaGreatDoor
open Go Go.Vc Go.RowKit Go.Proofs
set_option maxRecDepth 100000
set_option maxHeartbeats 8000000
set_option linter.unusedVariables false
abbrev n_law12_TableCaches : FuncId := 4
/- breccia/breccialaw12.TableCaches  -/
def law12_TableCaches.pre (a0 : Int) (a1 : Int) (a2 : Int) (a3 : Sl) (w : World) (R : Ending → World → Prop) : Prop :=
 Calls Tryz.prog 20 #[.int .i64 a0, .int .i64 a1, .int .i64 1000000] w (fun e w0 => ∃ (p1 : Option Addr), e = .returned (.pointer p1) ∧ 
 Calls Tryz.prog 20 #[.int .i64 a0, .int .i64 a2, .int .i64 1000000] w0 (fun e w2 => ∃ (p3 : Option Addr), e = .returned (.pointer p3) ∧ 
 Br (p1).isNone
 (R (.returned (.bool false)) w2)
 (Br (p3).isNone
 (R (.returned (.bool false)) w2)
 (∃ I4 : Nat → Int → World → Prop,
 (∃ n5, I4 n5 (0) w2) ∧
 ∀ (n5 : Nat) (us6 : Nat → Value) (x7 : Int) (w8 : World), I4 n5 x7 w8 →
 Br (decide ((x7 : Int) < ((a3.n : Nat) : Int)))
 (Br (decide ((x7 : Int) < 12))
 (InB a3.a x7 a3.n ∧ AndL (nnC (padd a3.a ((x7 : Int).toNat * 9))) (∃ (x10 : Int) (x11 : Int) (x12 : Int), LoadL w8 (padd (padd a3.a ((x7 : Int).toNat * 9)) 3) 0 [.int .i64 x10, .int .i64 x11, .int .i64 x12] ∧
 Calls Tryz.prog 21 #[.agg #[.int .i64 x10, .int .i64 x11, .int .i64 x12]] w8 (fun e w13 => ∃ (x14 : Int) (x15 : Int) (x16 : Int), e = .returned (.agg #[.int .i64 x14, .int .i64 x15, .int .i64 x16]) ∧ 
 ∀ w17 : World, w17 = w13.alloc (.cells #[.int .i64 0, .int .i64 0, .int .i64 0] 26) →
 ∀ w18 : World, w18 = w17.setRow w13.heap.size #[.int .i64 x14, .int .i64 x15, .int .i64 x16] →
 InB a3.a x7 a3.n ∧ AndL (nnC (padd a3.a ((x7 : Int).toNat * 9))) (∃ (x19 : Int), ld w18 (padd (padd a3.a ((x7 : Int).toNat * 9)) 6) = some (.int .i64 x19) ∧
 Calls Tryz.prog 22 #[.int .i64 x19] w18 (fun e w20 => ∃ (x21 : Int), e = .returned (.int .i64 x21) ∧ w20.heap[w13.heap.size]? = w18.heap[w13.heap.size]? ∧ 
 ∃ J22 : Option Addr → World → Prop,
 ((Calls Tryz.prog 23 #[.int .i64 x14] w20.drew (fun e w23 => ∃ (x24 : Int), e = .returned (.int .i64 x24) ∧ w23.heap[w13.heap.size]? = w20.drew.heap[w13.heap.size]? ∧ 
 LoadL w23 (some ⟨w13.heap.size, 2, none⟩) 0 [.int .i64 x16] ∧ (Calls Tryz.prog 23 #[.int .i64 x16] w23 (fun e w25 => ∃ (x26 : Int), e = .returned (.int .i64 x26) ∧ w25.heap[w13.heap.size]? = w23.heap[w13.heap.size]? ∧ 
 (∀ w27 : World, w27 = w25.alloc (.cells #[.int .i64 0, .int .i64 0] 42) →
 ∀ w28 : World, w28 = w27.setRow w25.heap.size #[.int .i64 x24, .int .i64 x26] →
 ([.int .i64 x14, .int .i64 x15, .int .i64 x16] : List Value) = [.int .i64 x14, .int .i64 x15, .int .i64 x16] ∧ J22 (some ⟨w25.heap.size, 0, none⟩) w28) ∧ (∀ w29 : World, w29 = w25.alloc (.cells #[.int .i64 0, .int .i64 0] 42) →
 ∀ w30 : World, w30 = w29.setRow w25.heap.size #[.int .i64 x24, .int .i64 x26] →
 ([.int .i64 x14, .int .i64 x15, .int .i64 x16] : List Value) = [.int .i64 x14, .int .i64 x15, .int .i64 x16] ∧ J22 (some ⟨w25.heap.size, 0, none⟩) w30))) ∧ (∀ w31 : World, w31 = w23.alloc (.cells #[.int .i64 0, .int .i64 0] 42) →
 Calls Tryz.prog 23 #[.int .i64 x16] w31 (fun e w32 => ∃ (x33 : Int), e = .returned (.int .i64 x33) ∧ w32.heap[w13.heap.size]? = w31.heap[w13.heap.size]? ∧ w32.heap[w23.heap.size]? = w31.heap[w23.heap.size]? ∧ 
 ∀ w34 : World, w34 = w32.setRow w23.heap.size #[.int .i64 x24, .int .i64 x33] →
 ([.int .i64 x14, .int .i64 x15, .int .i64 x16] : List Value) = [.int .i64 x14, .int .i64 x15, .int .i64 x16] ∧ J22 (some ⟨w23.heap.size, 0, none⟩) w34)))) ∧ (∀ w35 : World, w35 = w20.drew.alloc (.cells #[.int .i64 0, .int .i64 0] 42) →
 Calls Tryz.prog 23 #[.int .i64 x14] w35 (fun e w36 => ∃ (x37 : Int), e = .returned (.int .i64 x37) ∧ w36.heap[w13.heap.size]? = w35.heap[w13.heap.size]? ∧ w36.heap[w20.drew.heap.size]? = w35.heap[w20.drew.heap.size]? ∧ 
 LoadL w36 (some ⟨w13.heap.size, 2, none⟩) 0 [.int .i64 x16] ∧ Calls Tryz.prog 23 #[.int .i64 x16] w36 (fun e w38 => ∃ (x39 : Int), e = .returned (.int .i64 x39) ∧ w38.heap[w13.heap.size]? = w36.heap[w13.heap.size]? ∧ w38.heap[w20.drew.heap.size]? = w36.heap[w20.drew.heap.size]? ∧ 
 ∀ w40 : World, w40 = w38.setRow w20.drew.heap.size #[.int .i64 x37, .int .i64 x39] →
 ([.int .i64 x14, .int .i64 x15, .int .i64 x16] : List Value) = [.int .i64 x14, .int .i64 x15, .int .i64 x16] ∧ J22 (some ⟨w20.drew.heap.size, 0, none⟩) w40)))) ∧
 ∀ us41 : Nat → Value, ∀ (p42 : Option Addr) (w43 : World), J22 p42 w43 →
 ∃ (x44 : Int) (x45 : Int), LoadL w43.drew p42 0 [.int .i64 x44, .int .i64 x45] ∧
 Calls Tryz.prog 24 #[.pointer p1, .agg #[.int .i64 x44, .int .i64 x45]] w43.drew (fun e w46 => ∃ (x47 : Int), e = .returned (.int .i64 x47) ∧ w46.heap[w13.heap.size]? = w43.drew.heap[w13.heap.size]? ∧ 
 Br ((x47 : Int) != 0)
 (R (.returned (.bool false)) w46)
 (∃ (x48 : Int) (x49 : Int), LoadL w46 p42 0 [.int .i64 x48, .int .i64 x49] ∧
 Calls Tryz.prog 24 #[.pointer p3, .agg #[.int .i64 x48, .int .i64 x49]] w46 (fun e w50 => ∃ (x51 : Int), e = .returned (.int .i64 x51) ∧ w50.heap[w13.heap.size]? = w46.heap[w13.heap.size]? ∧ 
 Br ((x51 : Int) != 0)
 (R (.returned (.bool false)) w50)
 (Calls Tryz.prog 25 #[.pointer p1, .agg #[.int .i64 x14, .int .i64 x15, .int .i64 x16], .int .i64 x21] w50 (fun e w52 => ∃ (x53 : Int), e = .returned (.int .i64 x53) ∧ w52.heap[w13.heap.size]? = w50.heap[w13.heap.size]? ∧ 
 LoadL w52 (some ⟨w13.heap.size, 0, none⟩) 0 [.int .i64 x14, .int .i64 x15, .int .i64 x16] ∧ Calls Tryz.prog 25 #[.pointer p3, .agg #[.int .i64 x14, .int .i64 x15, .int .i64 x16], .int .i64 x21] w52 (fun e w54 => ∃ (x55 : Int), e = .returned (.int .i64 x55) ∧ w54.heap[w13.heap.size]? = w52.heap[w13.heap.size]? ∧ 
 Br ((x53 : Int) != x55)
 (R (.returned (.bool false)) w54)
 (∃ J56 : World → Prop,
 (InB a3.a x7 a3.n ∧ AndL (nnC (padd a3.a ((x7 : Int).toNat * 9))) (∃ (x57 : Int), ld w54 (padd (padd a3.a ((x7 : Int).toNat * 9)) 7) = some (.int .i64 x57) ∧
 Br (((Int.tmod x57 2) : Int) == 0)
 (∃ (x58 : Int) (x59 : Int), LoadL w54 p42 0 [.int .i64 x58, .int .i64 x59] ∧
 Calls Tryz.prog 26 #[.pointer p3, .agg #[.int .i64 x58, .int .i64 x59]] w54 (fun e w60 => ∃ (x61 : Int), e = .returned (.int .i64 x61) ∧ w60.heap[w13.heap.size]? = w54.heap[w13.heap.size]? ∧ 
 ([.int .i64 x14, .int .i64 x15, .int .i64 x16] : List Value) = [.int .i64 x14, .int .i64 x15, .int .i64 x16] ∧ J56  w60))
 (([.int .i64 x14, .int .i64 x15, .int .i64 x16] : List Value) = [.int .i64 x14, .int .i64 x15, .int .i64 x16] ∧ J56  w54))) ∧
 ∀ us62 : Nat → Value, ∀ (w63 : World), J56 w63 →
 ∃ I64 : Nat → Int → World → Prop,
 (∃ n65, ([.int .i64 x14, .int .i64 x15, .int .i64 x16] : List Value) = [.int .i64 x14, .int .i64 x15, .int .i64 x16] ∧ I64 n65 (0) w63) ∧
 ∀ (n65 : Nat) (us66 : Nat → Value) (x67 : Int) (w68 : World), I64 n65 x67 w68 →
 Br (decide ((x67 : Int) ≤ x7))
 (InB a3.a x67 a3.n ∧ AndL (nnC (padd a3.a ((x67 : Int).toNat * 9))) (∃ (x70 : Int) (x71 : Int) (x72 : Int), LoadL w68 (padd (padd a3.a ((x67 : Int).toNat * 9)) 3) 0 [.int .i64 x70, .int .i64 x71, .int .i64 x72] ∧
 Calls Tryz.prog 21 #[.agg #[.int .i64 x70, .int .i64 x71, .int .i64 x72]] w68 (fun e w73 => ∃ (x74 : Int) (x75 : Int) (x76 : Int), e = .returned (.agg #[.int .i64 x74, .int .i64 x75, .int .i64 x76]) ∧ w73.heap[w13.heap.size]? = w68.heap[w13.heap.size]? ∧ 
 ∀ w77 : World, w77 = w73.alloc (.cells #[.int .i64 0, .int .i64 0, .int .i64 0] 26) →
 ∀ w78 : World, w78 = w77.setRow w73.heap.size #[.int .i64 x74, .int .i64 x75, .int .i64 x76] →
 ∃ J79 : Option Addr → World → Prop,
 ((Calls Tryz.prog 23 #[.int .i64 x74] w78.drew (fun e w80 => ∃ (x81 : Int), e = .returned (.int .i64 x81) ∧ w80.heap[w13.heap.size]? = w78.drew.heap[w13.heap.size]? ∧ w80.heap[w73.heap.size]? = w78.drew.heap[w73.heap.size]? ∧ 
 LoadL w80 (some ⟨w73.heap.size, 2, none⟩) 0 [.int .i64 x76] ∧ (Calls Tryz.prog 23 #[.int .i64 x76] w80 (fun e w82 => ∃ (x83 : Int), e = .returned (.int .i64 x83) ∧ w82.heap[w13.heap.size]? = w80.heap[w13.heap.size]? ∧ w82.heap[w73.heap.size]? = w80.heap[w73.heap.size]? ∧ 
 (∀ w84 : World, w84 = w82.alloc (.cells #[.int .i64 0, .int .i64 0] 42) →
 ∀ w85 : World, w85 = w84.setRow w82.heap.size #[.int .i64 x81, .int .i64 x83] →
 ([.int .i64 x14, .int .i64 x15, .int .i64 x16] : List Value) = [.int .i64 x14, .int .i64 x15, .int .i64 x16] ∧ ([.int .i64 x74, .int .i64 x75, .int .i64 x76] : List Value) = [.int .i64 x74, .int .i64 x75, .int .i64 x76] ∧ J79 (some ⟨w82.heap.size, 0, none⟩) w85) ∧ (∀ w86 : World, w86 = w82.alloc (.cells #[.int .i64 0, .int .i64 0] 42) →
 ∀ w87 : World, w87 = w86.setRow w82.heap.size #[.int .i64 x81, .int .i64 x83] →
 ([.int .i64 x14, .int .i64 x15, .int .i64 x16] : List Value) = [.int .i64 x14, .int .i64 x15, .int .i64 x16] ∧ ([.int .i64 x74, .int .i64 x75, .int .i64 x76] : List Value) = [.int .i64 x74, .int .i64 x75, .int .i64 x76] ∧ J79 (some ⟨w82.heap.size, 0, none⟩) w87))) ∧ (∀ w88 : World, w88 = w80.alloc (.cells #[.int .i64 0, .int .i64 0] 42) →
 Calls Tryz.prog 23 #[.int .i64 x76] w88 (fun e w89 => ∃ (x90 : Int), e = .returned (.int .i64 x90) ∧ w89.heap[w13.heap.size]? = w88.heap[w13.heap.size]? ∧ w89.heap[w73.heap.size]? = w88.heap[w73.heap.size]? ∧ w89.heap[w80.heap.size]? = w88.heap[w80.heap.size]? ∧ 
 ∀ w91 : World, w91 = w89.setRow w80.heap.size #[.int .i64 x81, .int .i64 x90] →
 ([.int .i64 x14, .int .i64 x15, .int .i64 x16] : List Value) = [.int .i64 x14, .int .i64 x15, .int .i64 x16] ∧ ([.int .i64 x74, .int .i64 x75, .int .i64 x76] : List Value) = [.int .i64 x74, .int .i64 x75, .int .i64 x76] ∧ J79 (some ⟨w80.heap.size, 0, none⟩) w91)))) ∧ (∀ w92 : World, w92 = w78.drew.alloc (.cells #[.int .i64 0, .int .i64 0] 42) →
 Calls Tryz.prog 23 #[.int .i64 x74] w92 (fun e w93 => ∃ (x94 : Int), e = .returned (.int .i64 x94) ∧ w93.heap[w13.heap.size]? = w92.heap[w13.heap.size]? ∧ w93.heap[w73.heap.size]? = w92.heap[w73.heap.size]? ∧ w93.heap[w78.drew.heap.size]? = w92.heap[w78.drew.heap.size]? ∧ 
 LoadL w93 (some ⟨w73.heap.size, 2, none⟩) 0 [.int .i64 x76] ∧ Calls Tryz.prog 23 #[.int .i64 x76] w93 (fun e w95 => ∃ (x96 : Int), e = .returned (.int .i64 x96) ∧ w95.heap[w13.heap.size]? = w93.heap[w13.heap.size]? ∧ w95.heap[w73.heap.size]? = w93.heap[w73.heap.size]? ∧ w95.heap[w78.drew.heap.size]? = w93.heap[w78.drew.heap.size]? ∧ 
 ∀ w97 : World, w97 = w95.setRow w78.drew.heap.size #[.int .i64 x94, .int .i64 x96] →
 ([.int .i64 x14, .int .i64 x15, .int .i64 x16] : List Value) = [.int .i64 x14, .int .i64 x15, .int .i64 x16] ∧ ([.int .i64 x74, .int .i64 x75, .int .i64 x76] : List Value) = [.int .i64 x74, .int .i64 x75, .int .i64 x76] ∧ J79 (some ⟨w78.drew.heap.size, 0, none⟩) w97)))) ∧
 ∀ us98 : Nat → Value, ∀ (p99 : Option Addr) (w100 : World), J79 p99 w100 →
 ∃ (x101 : Int) (x102 : Int), LoadL w100 p99 0 [.int .i64 x101, .int .i64 x102] ∧
 Calls Tryz.prog 24 #[.pointer p1, .agg #[.int .i64 x101, .int .i64 x102]] w100 (fun e w103 => ∃ (x104 : Int), e = .returned (.int .i64 x104) ∧ w103.heap[w13.heap.size]? = w100.heap[w13.heap.size]? ∧ w103.heap[w73.heap.size]? = w100.heap[w73.heap.size]? ∧ 
 Br ((x104 : Int) != 0)
 (R (.returned (.bool false)) w103)
 (∃ (x105 : Int) (x106 : Int), LoadL w103 p99 0 [.int .i64 x105, .int .i64 x106] ∧
 Calls Tryz.prog 24 #[.pointer p3, .agg #[.int .i64 x105, .int .i64 x106]] w103 (fun e w107 => ∃ (x108 : Int), e = .returned (.int .i64 x108) ∧ w107.heap[w13.heap.size]? = w103.heap[w13.heap.size]? ∧ w107.heap[w73.heap.size]? = w103.heap[w73.heap.size]? ∧ 
 Br ((x108 : Int) != 0)
 (R (.returned (.bool false)) w107)
 (Calls Tryz.prog 27 #[.pointer p1, .agg #[.int .i64 x74, .int .i64 x75, .int .i64 x76]] w107.drew (fun e w109 => ∃ (x110 : Int), e = .returned (.int .i64 x110) ∧ w109.heap[w13.heap.size]? = w107.drew.heap[w13.heap.size]? ∧ w109.heap[w73.heap.size]? = w107.drew.heap[w73.heap.size]? ∧ 
 LoadL w109 (some ⟨w73.heap.size, 0, none⟩) 0 [.int .i64 x74, .int .i64 x75, .int .i64 x76] ∧ Calls Tryz.prog 27 #[.pointer p3, .agg #[.int .i64 x74, .int .i64 x75, .int .i64 x76]] w109 (fun e w111 => ∃ (x112 : Int), e = .returned (.int .i64 x112) ∧ w111.heap[w13.heap.size]? = w109.heap[w13.heap.size]? ∧ w111.heap[w73.heap.size]? = w109.heap[w73.heap.size]? ∧ 
 Br ((x110 : Int) != x112)
 (R (.returned (.bool false)) w111)
 (Calls Tryz.prog 27 #[.pointer p1, .agg #[.int .i64 x74, .int .i64 x75, .int .i64 x76]] w111 (fun e w113 => ∃ (x114 : Int), e = .returned (.int .i64 x114) ∧ w113.heap[w13.heap.size]? = w111.heap[w13.heap.size]? ∧ w113.heap[w73.heap.size]? = w111.heap[w73.heap.size]? ∧ 
 Br ((x114 : Int) == (-1))
 (R (.returned (.bool false)) w113)
 (∃ n69, n69 < n65 ∧ ([.int .i64 x14, .int .i64 x15, .int .i64 x16] : List Value) = [.int .i64 x14, .int .i64 x15, .int .i64 x16] ∧ I64 n69 ((IntKind.wrap .i64 (x67 + 1))) w113))))))))))))
 (∃ n9, n9 < n5 ∧ I4 n9 ((IntKind.wrap .i64 (x7 + 1))) w68)))))))))))))
 (Calls Tryz.prog 28 #[] w8 (fun e w115 => ∃ (b116 : Bool), e = .returned (.bool b116) ∧ 
 R (.returned (.bool b116)) w115)))
 (Calls Tryz.prog 28 #[] w8 (fun e w117 => ∃ (b118 : Bool), e = .returned (.bool b118) ∧ 
 R (.returned (.bool b118)) w117))))))
theorem law12_TableCaches.vc {a0 a1 a2 a3 w} {R : Ending → World → Prop} (h : law12_TableCaches.pre a0 a1 a2 a3 w R) : Calls Tryz.prog n_law12_TableCaches #[.int .i64 a0, .int .i64 a1, .int .i64 a2, .slice a3.a a3.n a3.c] w R :=
  calls_of_eq (an := ⟨[(16, ⟨[(15, .int .i64)], [], []⟩), (6, ⟨[(11, .int .i64)], [], []⟩)], [(20, ⟨[(17, .ptr)], [], []⟩), (15, ⟨[], [], []⟩), (11, ⟨[(14, .ptr)], [], []⟩)], []⟩) (args := [.int .i64 a0, .int .i64 a1, .int .i64 a2, .slice a3.a a3.n a3.c]) Tryz.noNG Tryz.mixed Tryz.func4 h (by kernel_rfl)


end Go.Proofs.YtbnmglonbhdcbaaGreatDoor
