import Derived.Test.YtbnmglonbhdcbaaGreatDoorG
set_option linter.all false
namespace Go.Proofs.YtbnmglonbhdcbaaGreatDoor
open Go Go.Vc Go.RowKit Go.Proofs
set_option maxRecDepth 100000
set_option maxHeartbeats 8000000
set_option linter.unusedVariables false
abbrev n_law13_WorldChanges : FuncId := 6
/- breccia/breccialaw13.WorldChanges  -/
def law13_WorldChanges.pre (a0 : Int) (a1 : Sl) (a2 : Sl) (w : World) (R : Ending → World → Prop) : Prop :=
 Calls Tryz.prog 29 #[.int .i64 a0, .int .i64 16, .int .i64 0] w (fun e w0 => ∃ (p1 : Option Addr), e = .returned (.pointer p1) ∧ 
 Calls Tryz.prog 29 #[.int .i64 a0, .int .i64 16, .int .i64 0] w0 (fun e w2 => ∃ (p3 : Option Addr), e = .returned (.pointer p3) ∧ 
 Br (p1).isNone
 (R (.returned (.bool false)) w2)
 (Br (p3).isNone
 (R (.returned (.bool false)) w2)
 (Calls Tryz.prog 30 #[.pointer p1] w2 (fun e w4 => ∃ (p5 : Option Addr), e = .returned (.pointer p5) ∧ 
 Calls Tryz.prog 30 #[.pointer p3] w4 (fun e w6 => ∃ (p7 : Option Addr), e = .returned (.pointer p7) ∧ 
 Br (p5).isNone
 (R (.returned (.bool false)) w6)
 (Br (p7).isNone
 (R (.returned (.bool false)) w6)
 (∃ I8 : Nat → Int → World → Prop,
 (∃ n9, I8 n9 ((-1)) w6) ∧
 ∀ (n9 : Nat) (us10 : Nat → Value) (x11 : Int) (w12 : World), I8 n9 x11 w12 →
 Br (decide ((x11 : Int) < 2))
 (∃ I14 : Nat → Int → World → Prop,
 (∃ n15, I14 n15 ((-1)) w12) ∧
 ∀ (n15 : Nat) (us16 : Nat → Value) (x17 : Int) (w18 : World), I14 n15 x17 w18 →
 Br (decide ((x17 : Int) < 2))
 (Calls Tryz.prog 24 #[.pointer p5, .agg #[.int .i64 x11, .int .i64 x17]] w18 (fun e w20 => ∃ (x21 : Int), e = .returned (.int .i64 x21) ∧ 
 Calls Tryz.prog 24 #[.pointer p7, .agg #[.int .i64 x11, .int .i64 x17]] w20 (fun e w22 => ∃ (x23 : Int), e = .returned (.int .i64 x23) ∧ 
 ∃ n19, n19 < n15 ∧ I14 n19 ((IntKind.wrap .i64 (x17 + 1))) w22)))
 (∃ n13, n13 < n9 ∧ I8 n13 ((IntKind.wrap .i64 (x11 + 1))) w18))
 (∃ J24 : World → Prop,
 (∃ I25 : Nat → Int → World → Prop,
 (∃ n26, I25 n26 (0) w12) ∧
 ∀ (n26 : Nat) (us27 : Nat → Value) (x28 : Int) (w29 : World), I25 n26 x28 w29 →
 Br (decide ((x28 : Int) < ((a1.n : Nat) : Int)))
 (Br (decide ((x28 : Int) < 15))
 (InB a1.a x28 a1.n ∧ AndL (nnC (padd a1.a ((x28 : Int).toNat * 10))) (∃ (x31 : Int) (x32 : Int) (x33 : Int), LoadL w29 (padd (padd a1.a ((x28 : Int).toNat * 10)) 4) 0 [.int .i64 x31, .int .i64 x32, .int .i64 x33] ∧
 Calls Tryz.prog 21 #[.agg #[.int .i64 x31, .int .i64 x32, .int .i64 x33]] w29 (fun e w34 => ∃ (x35 : Int) (x36 : Int) (x37 : Int), e = .returned (.agg #[.int .i64 x35, .int .i64 x36, .int .i64 x37]) ∧ 
 ∀ w38 : World, w38 = w34.alloc (.cells #[.int .i64 0, .int .i64 0, .int .i64 0] 26) →
 ∀ w39 : World, w39 = w38.setRow w34.heap.size #[.int .i64 x35, .int .i64 x36, .int .i64 x37] →
 InB a1.a x28 a1.n ∧ AndL (nnC (padd a1.a ((x28 : Int).toNat * 10))) (∃ (x40 : Int), ld w39 (padd (padd a1.a ((x28 : Int).toNat * 10)) 0) = some (.int .i64 x40) ∧
 Br ((x40 : Int) == 2)
 (InB a1.a x28 a1.n ∧ AndL (nnC (padd a1.a ((x28 : Int).toNat * 10))) (∃ (x41 : Int) (x42 : Int) (x43 : Int), LoadL w39.drew (padd (padd a1.a ((x28 : Int).toNat * 10)) 7) 0 [.int .i64 x41, .int .i64 x42, .int .i64 x43] ∧
 Calls Tryz.prog 21 #[.agg #[.int .i64 x41, .int .i64 x42, .int .i64 x43]] w39.drew (fun e w44 => ∃ (x45 : Int) (x46 : Int) (x47 : Int), e = .returned (.agg #[.int .i64 x45, .int .i64 x46, .int .i64 x47]) ∧ w44.heap[w34.heap.size]? = w39.drew.heap[w34.heap.size]? ∧ 
 LoadL w44 (some ⟨w34.heap.size, 0, none⟩) 0 [.int .i64 x35, .int .i64 x36, .int .i64 x37] ∧ Calls Tryz.prog 32 #[.pointer p1, .agg #[.int .i64 x35, .int .i64 x36, .int .i64 x37], .agg #[.int .i64 x45, .int .i64 x46, .int .i64 x47]] w44 (fun e w48 => ∃ (x49 : Int), e = .returned (.int .i64 x49) ∧ w48.heap[w34.heap.size]? = w44.heap[w34.heap.size]? ∧ 
 ∃ n30, n30 < n26 ∧ I25 n30 ((IntKind.wrap .i64 (x28 + 1))) w48))))
 (InB a1.a x28 a1.n ∧ AndL (nnC (padd a1.a ((x28 : Int).toNat * 10))) (∃ (x50 : Int), ld w39.drew (padd (padd a1.a ((x28 : Int).toNat * 10)) 1) = some (.int .i64 x50) ∧
 Calls Tryz.prog 31 #[.pointer p1, .agg #[.int .i64 x35, .int .i64 x36, .int .i64 x37], .int .i64 x50] w39.drew (fun e w51 => ∃ (x52 : Int), e = .returned (.int .i64 x52) ∧ w51.heap[w34.heap.size]? = w39.drew.heap[w34.heap.size]? ∧ 
 ∃ n30, n30 < n26 ∧ I25 n30 ((IntKind.wrap .i64 (x28 + 1))) w51)))))))
 (J24  w29))
 (J24  w29)) ∧
 ∀ us53 : Nat → Value, ∀ (w54 : World), J24 w54 →
 Calls Tryz.prog 33 #[.pointer p1] w54 (fun e w55 => ∃ (s56 : Sl), e = .returned (.slice s56.a s56.n s56.c) ∧ 
 ∃ I57 : Nat → Int → World → Prop,
 (∃ n58, I57 n58 (0) w55) ∧
 ∀ (n58 : Nat) (us59 : Nat → Value) (x60 : Int) (w61 : World), I57 n58 x60 w61 →
 Br (decide ((x60 : Int) < ((s56.n : Nat) : Int)))
 (InB s56.a x60 s56.n ∧ AndL (nnC (padd s56.a ((x60 : Int).toNat * 4))) (∃ (x63 : Int) (x64 : Int) (x65 : Int), LoadL w61.drew (padd (padd s56.a ((x60 : Int).toNat * 4)) 0) 0 [.int .i64 x63, .int .i64 x64, .int .i64 x65] ∧
 InB s56.a x60 s56.n ∧ AndL (nnC (padd s56.a ((x60 : Int).toNat * 4))) (∃ (x66 : Int), ld w61.drew (padd (padd s56.a ((x60 : Int).toNat * 4)) 3) = some (.int .i64 x66) ∧
 Calls Tryz.prog 31 #[.pointer p3, .agg #[.int .i64 x63, .int .i64 x64, .int .i64 x65], .int .i64 x66] w61.drew (fun e w67 => ∃ (x68 : Int), e = .returned (.int .i64 x68) ∧ 
 Br ((x68 : Int) != 0)
 (R (.returned (.bool false)) w67)
 (∃ n62, n62 < n58 ∧ I57 n62 ((IntKind.wrap .i64 (x60 + 1))) w67)))))
 (∃ J69 : World → Prop,
 (∃ I70 : Nat → Int → World → Prop,
 (∃ n71, I70 n71 (0) w61) ∧
 ∀ (n71 : Nat) (us72 : Nat → Value) (x73 : Int) (w74 : World), I70 n71 x73 w74 →
 Br (decide ((x73 : Int) < ((a1.n : Nat) : Int)))
 (Br (decide ((x73 : Int) < 15))
 (InB a1.a x73 a1.n ∧ AndL (nnC (padd a1.a ((x73 : Int).toNat * 10))) (∃ (x76 : Int) (x77 : Int) (x78 : Int), LoadL w74 (padd (padd a1.a ((x73 : Int).toNat * 10)) 4) 0 [.int .i64 x76, .int .i64 x77, .int .i64 x78] ∧
 Calls Tryz.prog 21 #[.agg #[.int .i64 x76, .int .i64 x77, .int .i64 x78]] w74 (fun e w79 => ∃ (x80 : Int) (x81 : Int) (x82 : Int), e = .returned (.agg #[.int .i64 x80, .int .i64 x81, .int .i64 x82]) ∧ 
 ∀ w83 : World, w83 = w79.alloc (.cells #[.int .i64 0, .int .i64 0, .int .i64 0] 26) →
 ∀ w84 : World, w84 = w83.setRow w79.heap.size #[.int .i64 x80, .int .i64 x81, .int .i64 x82] →
 Calls Tryz.prog 27 #[.pointer p5, .agg #[.int .i64 x80, .int .i64 x81, .int .i64 x82]] w84.drew (fun e w85 => ∃ (x86 : Int), e = .returned (.int .i64 x86) ∧ w85.heap[w79.heap.size]? = w84.drew.heap[w79.heap.size]? ∧ 
 LoadL w85 (some ⟨w79.heap.size, 0, none⟩) 0 [.int .i64 x80, .int .i64 x81, .int .i64 x82] ∧ Calls Tryz.prog 27 #[.pointer p7, .agg #[.int .i64 x80, .int .i64 x81, .int .i64 x82]] w85 (fun e w87 => ∃ (x88 : Int), e = .returned (.int .i64 x88) ∧ w87.heap[w79.heap.size]? = w85.heap[w79.heap.size]? ∧ 
 Br ((x86 : Int) != x88)
 (R (.returned (.bool false)) w87)
 (∃ n75, n75 < n71 ∧ I70 n75 ((IntKind.wrap .i64 (x73 + 1))) w87))))))
 (J69  w74))
 (J69  w74)) ∧
 ∀ us89 : Nat → Value, ∀ (w90 : World), J69 w90 →
 ∃ J91 : World → Prop,
 (∃ I92 : Nat → Int → World → Prop,
 (∃ n93, I92 n93 (0) w90) ∧
 ∀ (n93 : Nat) (us94 : Nat → Value) (x95 : Int) (w96 : World), I92 n93 x95 w96 →
 Br (decide ((x95 : Int) < ((a2.n : Nat) : Int)))
 (Br (decide ((x95 : Int) < 5))
 (InB a2.a x95 a2.n ∧ ∃ (x98 : Int) (x99 : Int) (x100 : Int), LoadL w96 (padd a2.a ((x95 : Int).toNat * 3)) 0 [.int .i64 x98, .int .i64 x99, .int .i64 x100] ∧
 Calls Tryz.prog 21 #[.agg #[.int .i64 x98, .int .i64 x99, .int .i64 x100]] w96 (fun e w101 => ∃ (x102 : Int) (x103 : Int) (x104 : Int), e = .returned (.agg #[.int .i64 x102, .int .i64 x103, .int .i64 x104]) ∧ 
 ∀ w105 : World, w105 = w101.alloc (.cells #[.int .i64 0, .int .i64 0, .int .i64 0] 26) →
 ∀ w106 : World, w106 = w105.setRow w101.heap.size #[.int .i64 x102, .int .i64 x103, .int .i64 x104] →
 Calls Tryz.prog 27 #[.pointer p5, .agg #[.int .i64 x102, .int .i64 x103, .int .i64 x104]] w106.drew (fun e w107 => ∃ (x108 : Int), e = .returned (.int .i64 x108) ∧ w107.heap[w101.heap.size]? = w106.drew.heap[w101.heap.size]? ∧ 
 LoadL w107 (some ⟨w101.heap.size, 0, none⟩) 0 [.int .i64 x102, .int .i64 x103, .int .i64 x104] ∧ Calls Tryz.prog 27 #[.pointer p7, .agg #[.int .i64 x102, .int .i64 x103, .int .i64 x104]] w107 (fun e w109 => ∃ (x110 : Int), e = .returned (.int .i64 x110) ∧ w109.heap[w101.heap.size]? = w107.heap[w101.heap.size]? ∧ 
 Br ((x108 : Int) != x110)
 (R (.returned (.bool false)) w109)
 (∃ n97, n97 < n93 ∧ I92 n97 ((IntKind.wrap .i64 (x95 + 1))) w109)))))
 (J91  w96))
 (J91  w96)) ∧
 ∀ us111 : Nat → Value, ∀ (w112 : World), J91 w112 →
 Calls Tryz.prog 19 #[] w112 (fun e w113 => ∃ (b114 : Bool), e = .returned (.bool b114) ∧ 
 R (.returned (.bool b114)) w113))))))))))))
theorem law13_WorldChanges.vc {a0 a1 a2 w} {R : Ending → World → Prop} (h : law13_WorldChanges.pre a0 a1 a2 w R) : Calls Tryz.prog n_law13_WorldChanges #[.int .i64 a0, .slice a1.a a1.n a1.c, .slice a2.a a2.n a2.c] w R :=
  calls_of_eq (an := ⟨[(13, ⟨[(12, .int .i64)], [], []⟩), (18, ⟨[(13, .int .i64)], [], []⟩), (31, ⟨[(17, .int .i64)], [], []⟩), (37, ⟨[(19, .int .i64)], [], []⟩), (26, ⟨[(16, .int .i64)], [], []⟩), (10, ⟨[(11, .int .i64)], [], []⟩)], [(42, ⟨[], [], []⟩), (36, ⟨[], [], []⟩), (24, ⟨[], [], []⟩)], []⟩) (args := [.int .i64 a0, .slice a1.a a1.n a1.c, .slice a2.a a2.n a2.c]) Tryz.noNG Tryz.mixed Tryz.func6 h (by kernel_rfl)


end Go.Proofs.YtbnmglonbhdcbaaGreatDoor
