import Derived.Test.YtalpkjfpmdpbiaaGreatDoorGD
set_option linter.all false
namespace Go.Proofs.YtalpkjfpmdpbiaaGreatDoor
open Go Go.Vc Go.RowKit Go.Proofs
set_option maxRecDepth 100000
set_option maxHeartbeats 8000000
variable{R:Ending->World->Prop}
set_option linter.unusedVariables false
abbrev iT:FuncId:=6
def fJ.pre (a0 a1 : Int) (a2 : Sl) (a3 a4 : Int) (w : World) (R : Ending → World → Prop) : Prop :=
 Calls Tryz.prog 9 #[a0, a1, .slice none 0 0] w (fun e w0 => ∃ (p1 : Option Addr) (x2 x3 x4 x5 x6 : Int) (s7 s8 s9 s10 : Sl) (x11 x12 : Int) (s13 : Sl) (x14 x15 : Int) (s16 s17 : Sl), e = .returned (.tuple #[.pointer p1, .agg #[x2, x3, x4, x5, x6, s7, s8, s9, s10, x11, x12, s13, x14, x15, s16, s17]]) ∧
 ∀ w18 : World, w18 = w0.alloc (.cells #[(0:Int), (0:Int), (0:Int), (0:Int), (0:Int), .slice none 0 0, .slice none 0 0, .slice none 0 0, .slice none 0 0, (0:Int), (0:Int), .slice none 0 0, (0:Int), (0:Int), .slice none 0 0, .slice none 0 0] 39) →
 ∀ w19 : World, w19 = w18.setRow w0 #[x2, x3, x4, x5, x6, s7, s8, s9, s10, x11, x12, s13, x14, x15, s16, s17] →
 Calls Tryz.prog 9 #[a0, a1, .slice none 0 0] w19 (fun e w20 => ∃ (p21 : Option Addr) (x22 x23 x24 x25 x26 : Int) (s27 s28 s29 s30 : Sl) (x31 x32 : Int) (s33 : Sl) (x34 x35 : Int) (s36 s37 : Sl), e = .returned (.tuple #[.pointer p21, .agg #[x22, x23, x24, x25, x26, s27, s28, s29, s30, x31, x32, s33, x34, x35, s36, s37]]) ∧ Kp w0 w19 w20 ∧
 ∀ w38 : World, w38 = w20.alloc (.cells #[(0:Int), (0:Int), (0:Int), (0:Int), (0:Int), .slice none 0 0, .slice none 0 0, .slice none 0 0, .slice none 0 0, (0:Int), (0:Int), .slice none 0 0, (0:Int), (0:Int), .slice none 0 0, .slice none 0 0] 39) →
 ∀ w39 : World, w39 = w38.setRow w20 #[x22, x23, x24, x25, x26, s27, s28, s29, s30, x31, x32, s33, x34, x35, s36, s37] →
 Br (p1).isNone
 (R (.returned (.bool false)) w39)
 (Br (p21).isNone
 (R (.returned (.bool false)) w39)
 (∃ J40 : Int → Int → Int → Int → Int → Sl → Sl → Sl → Sl → Int → Int → Sl → Int → Int → Sl → Sl → World → Prop,
 (∃ I41 : Nat → Int → Int → Int → Int → Int → Int → Sl → Sl → Sl → Sl → Int → Int → Sl → Int → Int → Sl → Sl → World → Prop,
 (∃ n42, aT [x22, x23, x24, x25, x26, s27, s28, s29, s30, x31, x32, s33, x34, x35, s36, s37] ∧ I41 n42 (0) x2 x3 x4 x5 x6 s7 s8 s9 s10 x11 x12 s13 x14 x15 s16 s17 w39) ∧
 ∀ (n42 : Nat) (us43 : Nat → Value) (x44 x45 x46 x47 x48 x49 : Int) (s50 s51 s52 s53 : Sl) (x54 x55 : Int) (s56 : Sl) (x57 x58 : Int) (s59 s60 : Sl) (w61 : World), I41 n42 x44 x45 x46 x47 x48 x49 s50 s51 s52 s53 x54 x55 s56 x57 x58 s59 s60 w61 →
 Br (decide (x44 < ((a2.n : Nat) : Int)))
 (Br (decide (x44 < 8))
 (bA a2.a x44 a2.n ∧ aK (ep (ab a2.a ((x44 : Int).toNat * 6))) (∃ (x63 x64 x65 : Int), ah w61 (ab (ab a2.a ((x44 : Int).toNat * 6)) 3) 0 [x63, x64, x65] ∧
 Calls Tryz.prog 12 #[.agg #[x63, x64, x65]] w61 (fun e w66 => ∃ (x67 x68 x69 : Int), e = .returned (.agg #[x67, x68, x69]) ∧ Kp w0 w61 w66 ∧ Kp w20 w61 w66 ∧
 ∀ w70 : World, w70 = w66.alloc (.cells #[(0:Int), (0:Int), (0:Int)] 23) →
 ∀ w71 : World, w71 = w70.setRow w66 #[x67, x68, x69] →
 bA a2.a x44 a2.n ∧ aK (ep (ab a2.a ((x44 : Int).toNat * 6))) (∃ (x72 : Int), ld w71 (ab (ab a2.a ((x44 : Int).toNat * 6)) 1) = some (.int .i64 x72) ∧
 Calls Tryz.prog 25 #[x72] w71 (fun e w73 => ∃ (x74 : Int), e = .returned x74 ∧ Kp w0 w71 w73 ∧ Kp w20 w71 w73 ∧ Kp w66 w71 w73 ∧
 Calls Tryz.prog 26 #[.agg #[x45, x46, x47, x48, x49, s50, s51, s52, s53, x54, x55, s56, x57, x58, s59, s60], .agg #[x67, x68, x69], x74] w73 (fun e w75 => ∃ (x76 x77 x78 x79 x80 : Int) (s81 s82 s83 s84 : Sl) (x85 x86 : Int) (s87 : Sl) (x88 x89 : Int) (s90 s91 : Sl) (x92 : Int), e = .returned (.tuple #[.agg #[x76, x77, x78, x79, x80, s81, s82, s83, s84, x85, x86, s87, x88, x89, s90, s91], x92]) ∧ Kp w0 w73 w75 ∧ Kp w20 w73 w75 ∧ Kp w66 w73 w75 ∧
 ∀ w93 : World, w93 = w75.alloc (.cells #[(0:Int), (0:Int), (0:Int), (0:Int), (0:Int), .slice none 0 0, .slice none 0 0, .slice none 0 0, .slice none 0 0, (0:Int), (0:Int), .slice none 0 0, (0:Int), (0:Int), .slice none 0 0, .slice none 0 0] 39) →
 ∀ w94 : World, w94 = w93.setRow w75 #[x76, x77, x78, x79, x80, s81, s82, s83, s84, x85, x86, s87, x88, x89, s90, s91] →
 ∀ w95 : World, w95 = w94.setRow w0 #[x76, x77, x78, x79, x80, s81, s82, s83, s84, x85, x86, s87, x88, x89, s90, s91] →
 Calls Tryz.prog 14 #[.pointer p1, .agg #[x67, x68, x69], x74] w95 (fun e w96 => ∃ (x97 : Int), e = .returned x97 ∧ Kp w0 w95 w96 ∧ Kp w20 w95 w96 ∧ Kp w66 w95 w96 ∧ Kp w75 w95 w96 ∧
 ∃ n62, n62 < n42 ∧ aT [x22, x23, x24, x25, x26, s27, s28, s29, s30, x31, x32, s33, x34, x35, s36, s37] ∧ I41 n62 ((IntKind.wrap .i64 (x44 + 1))) x76 x77 x78 x79 x80 s81 s82 s83 s84 x85 x86 s87 x88 x89 s90 s91 w96)))))))
 (aT [x22, x23, x24, x25, x26, s27, s28, s29, s30, x31, x32, s33, x34, x35, s36, s37] ∧ J40 x45 x46 x47 x48 x49 s50 s51 s52 s53 x54 x55 s56 x57 x58 s59 s60 w61))
 (aT [x22, x23, x24, x25, x26, s27, s28, s29, s30, x31, x32, s33, x34, x35, s36, s37] ∧ J40 x45 x46 x47 x48 x49 s50 s51 s52 s53 x54 x55 s56 x57 x58 s59 s60 w61)) ∧
 ∀ us98 : Nat → Value, ∀ (x99 x100 x101 x102 x103 : Int) (s104 s105 s106 s107 : Sl) (x108 x109 : Int) (s110 : Sl) (x111 x112 : Int) (s113 s114 : Sl) (w115 : World), J40 x99 x100 x101 x102 x103 s104 s105 s106 s107 x108 x109 s110 x111 x112 s113 s114 w115 →
 ∃ I116 : Nat → Int → World → Prop,
 (∃ n117, aT [x99, x100, x101, x102, x103, s104, s105, s106, s107, x108, x109, s110, x111, x112, s113, s114] ∧ aT [x22, x23, x24, x25, x26, s27, s28, s29, s30, x31, x32, s33, x34, x35, s36, s37] ∧ I116 n117 (0) w115) ∧
 ∀ (n117 : Nat) (us118 : Nat → Value) (x119 : Int) (w120 : World), I116 n117 x119 w120 →
 Calls Tryz.prog 19 #[a3, (11:Int)] w120 (fun e w122 => ∃ (x123 : Int), e = .returned x123 ∧ Kp w0 w120 w122 ∧ Kp w20 w120 w122 ∧
 Br (decide (x119 < x123))
 (Calls Tryz.prog 15 #[.pointer p1] w122 (fun e w124 => ∃ (x125 : Int), e = .returned x125 ∧ Kp w0 w122 w124 ∧ Kp w20 w122 w124 ∧
 ∃ n121, n121 < n117 ∧ aT [x99, x100, x101, x102, x103, s104, s105, s106, s107, x108, x109, s110, x111, x112, s113, s114] ∧ aT [x22, x23, x24, x25, x26, s27, s28, s29, s30, x31, x32, s33, x34, x35, s36, s37] ∧ I116 n121 ((IntKind.wrap .i64 (x119 + 1))) w124))
 (Calls Tryz.prog 10 #[.pointer p1] w122 (fun e w126 => ∃ (p127 : Option Addr), e = .returned (.pointer p127) ∧ Kp w0 w122 w126 ∧ Kp w20 w122 w126 ∧
 Calls Tryz.prog 10 #[.pointer p21] w126 (fun e w128 => ∃ (p129 : Option Addr), e = .returned (.pointer p129) ∧ Kp w0 w126 w128 ∧ Kp w20 w126 w128 ∧
 Br (p127).isNone
 (R (.returned (.bool false)) w128)
 (Br (p129).isNone
 (R (.returned (.bool false)) w128)
 (Calls Tryz.prog 24 #[.pointer p127] w128 (fun e w130 => ∃ (s131 : Sl), e = .returned s131 ∧ Kp w0 w128 w130 ∧ Kp w20 w128 w130 ∧
 ∃ I132 : Nat → Int → World → Prop,
 (∃ n133, aT [x99, x100, x101, x102, x103, s104, s105, s106, s107, x108, x109, s110, x111, x112, s113, s114] ∧ aT [x22, x23, x24, x25, x26, s27, s28, s29, s30, x31, x32, s33, x34, x35, s36, s37] ∧ I132 n133 (0) w130) ∧
 ∀ (n133 : Nat) (us134 : Nat → Value) (x135 : Int) (w136 : World), I132 n133 x135 w136 →
 Br (decide (x135 < ((s131.n : Nat) : Int)))
 (bA s131.a x135 s131.n ∧ aK (ep (ab s131.a ((x135 : Int).toNat * 4))) (∃ (x138 x139 x140 : Int), ah w136.drew (ab (ab s131.a ((x135 : Int).toNat * 4)) 0) 0 [x138, x139, x140] ∧
 bA s131.a x135 s131.n ∧ aK (ep (ab s131.a ((x135 : Int).toNat * 4))) (∃ (x141 : Int), ld w136.drew (ab (ab s131.a ((x135 : Int).toNat * 4)) 3) = some (.int .i64 x141) ∧
 Calls Tryz.prog 27 #[.pointer p129, .agg #[x138, x139, x140], x141] w136.drew (fun e w142 => ∃ (x143 : Int), e = .returned x143 ∧ Kp w0 w136.drew w142 ∧ Kp w20 w136.drew w142 ∧
 ∃ n137, n137 < n133 ∧ aT [x99, x100, x101, x102, x103, s104, s105, s106, s107, x108, x109, s110, x111, x112, s113, s114] ∧ aT [x22, x23, x24, x25, x26, s27, s28, s29, s30, x31, x32, s33, x34, x35, s36, s37] ∧ I132 n137 ((IntKind.wrap .i64 (x135 + 1))) w142))))
 (Calls Tryz.prog 29 #[.pointer p1] w136 (fun e w144 => ∃ (x145 : Int), e = .returned x145 ∧ Kp w0 w136 w144 ∧ Kp w20 w136 w144 ∧
 Calls Tryz.prog 23 #[.pointer p1] w144 (fun e w146 => ∃ (s147 : Sl), e = .returned s147 ∧ Kp w0 w144 w146 ∧ Kp w20 w144 w146 ∧
 Calls Tryz.prog 28 #[.pointer p21, x145, s147] w146 (fun e w148 => ∃ (x149 : Int), e = .returned x149 ∧ Kp w0 w146 w148 ∧ Kp w20 w146 w148 ∧
 Calls Tryz.prog 23 #[.pointer p1] w148 (fun e w150 => ∃ (s151 : Sl), e = .returned s151 ∧ Kp w0 w148 w150 ∧ Kp w20 w148 w150 ∧
 Br (x149 != ((s151.n : Nat) : Int))
 (R (.returned (.bool false)) w150)
 (Calls Tryz.prog 29 #[.pointer p21] w150 (fun e w152 => ∃ (x153 : Int), e = .returned x153 ∧ Kp w0 w150 w152 ∧ Kp w20 w150 w152 ∧
 Calls Tryz.prog 29 #[.pointer p1] w152 (fun e w154 => ∃ (x155 : Int), e = .returned x155 ∧ Kp w0 w152 w154 ∧ Kp w20 w152 w154 ∧
 Br (x153 != x155)
 (R (.returned (.bool false)) w154)
 (∃ I156 : Nat → Int → World → Prop,
 (∃ n157, aT [x99, x100, x101, x102, x103, s104, s105, s106, s107, x108, x109, s110, x111, x112, s113, s114] ∧ aT [x22, x23, x24, x25, x26, s27, s28, s29, s30, x31, x32, s33, x34, x35, s36, s37] ∧ I156 n157 (0) w154) ∧
 ∀ (n157 : Nat) (us158 : Nat → Value) (x159 : Int) (w160 : World), I156 n157 x159 w160 →
 Calls Tryz.prog 19 #[a4, (21:Int)] w160 (fun e w162 => ∃ (x163 : Int), e = .returned x163 ∧ Kp w0 w160 w162 ∧ Kp w20 w160 w162 ∧
 Br (decide (x159 < x163))
 (Calls Tryz.prog 15 #[.pointer p1] w162 (fun e w164 => ∃ (x165 : Int), e = .returned x165 ∧ Kp w0 w162 w164 ∧ Kp w20 w162 w164 ∧
 Calls Tryz.prog 15 #[.pointer p21] w164 (fun e w166 => ∃ (x167 : Int), e = .returned x167 ∧ Kp w0 w164 w166 ∧ Kp w20 w164 w166 ∧
 Br (x165 != x167)
 (R (.returned (.bool false)) w166)
 (∃ n161, n161 < n157 ∧ aT [x99, x100, x101, x102, x103, s104, s105, s106, s107, x108, x109, s110, x111, x112, s113, s114] ∧ aT [x22, x23, x24, x25, x26, s27, s28, s29, s30, x31, x32, s33, x34, x35, s36, s37] ∧ I156 n161 ((IntKind.wrap .i64 (x159 + 1))) w166))))
 (Calls Tryz.prog 24 #[.pointer p129] w162 (fun e w168 => ∃ (s169 : Sl), e = .returned s169 ∧ Kp w0 w162 w168 ∧ Kp w20 w162 w168 ∧
 Calls Tryz.prog 11 #[.pointer p127] w168 (fun e w170 => ∃ (v171 : Value), e = .returned v171 ∧ Kp w0 w168 w170 ∧ Kp w20 w168 w170 ∧
 Calls Tryz.prog 11 #[.pointer p129] w170 (fun e w172 => ∃ (v173 : Value), e = .returned v173 ∧ Kp w0 w170 w172 ∧ Kp w20 w170 w172 ∧
 aK (K5 v171) (Br (zI v171)
 (R (.returned (.bool false)) w172)
 (aK (K5 v173) (Br (zI v173)
 (R (.returned (.bool false)) w172)
 (∃ I174 : Nat → Int → World → Prop,
 (∃ n175, aT [x99, x100, x101, x102, x103, s104, s105, s106, s107, x108, x109, s110, x111, x112, s113, s114] ∧ aT [x22, x23, x24, x25, x26, s27, s28, s29, s30, x31, x32, s33, x34, x35, s36, s37] ∧ I174 n175 (0) w172) ∧
 ∀ (n175 : Nat) (us176 : Nat → Value) (x177 : Int) (w178 : World), I174 n175 x177 w178 →
 Br (decide (x177 < ((s131.n : Nat) : Int)))
 (bA s131.a x177 s131.n ∧ aK (ep (ab s131.a ((x177 : Int).toNat * 4))) (∃ (x180 x181 x182 : Int), ah w178.drew (ab (ab s131.a ((x177 : Int).toNat * 4)) 0) 0 [x180, x181, x182] ∧
 bA s131.a x177 s131.n ∧ aK (ep (ab s131.a ((x177 : Int).toNat * 4))) (∃ (x183 x184 x185 : Int), ah w178.drew (ab (ab s131.a ((x177 : Int).toNat * 4)) 0) 0 [x183, x184, x185] ∧
 br Tryz.prog v171 [.agg #[x180, x181, x182]] w178.drew (fun e w186 => ∃ (x187 : Int), e = .returned x187 ∧ Kp w0 w178.drew w186 ∧ Kp w20 w178.drew w186 ∧
 ah w186 (ab (ab s131.a ((x177 : Int).toNat * 4)) 0) 0 [x183, x184, x185] ∧ br Tryz.prog v173 [.agg #[x183, x184, x185]] w186 (fun e w188 => ∃ (x189 : Int), e = .returned x189 ∧ Kp w0 w186 w188 ∧ Kp w20 w186 w188 ∧
 Br (x187 != x189)
 (R (.returned (.bool false)) w188)
 (∃ n179, n179 < n175 ∧ aT [x99, x100, x101, x102, x103, s104, s105, s106, s107, x108, x109, s110, x111, x112, s113, s114] ∧ aT [x22, x23, x24, x25, x26, s27, s28, s29, s30, x31, x32, s33, x34, x35, s36, s37] ∧ I174 n179 ((IntKind.wrap .i64 (x177 + 1))) w188))))))
 (Calls Tryz.prog 23 #[.pointer p1] w178 (fun e w190 => ∃ (s191 : Sl), e = .returned s191 ∧ Kp w0 w178 w190 ∧ Kp w20 w178 w190 ∧
 Calls Tryz.prog 31 #[s191] w190 (fun e w192 => ∃ (s193 : Sl), e = .returned s193 ∧ Kp w0 w190 w192 ∧ Kp w20 w190 w192 ∧
 Calls Tryz.prog 23 #[.pointer p21] w192 (fun e w194 => ∃ (s195 : Sl), e = .returned s195 ∧ Kp w0 w192 w194 ∧ Kp w20 w192 w194 ∧
 Calls Tryz.prog 31 #[s195] w194 (fun e w196 => ∃ (s197 : Sl), e = .returned s197 ∧ Kp w0 w194 w196 ∧ Kp w20 w194 w196 ∧
 Calls Tryz.prog 30 #[s193, s197] w196 (fun e w198 => ∃ (b199 : Bool), e = .returned (.bool b199) ∧ Kp w0 w196 w198 ∧ Kp w20 w196 w198 ∧
 Br b199
 (Calls Tryz.prog 13 #[] w198 (fun e w200 => ∃ (b201 : Bool), e = .returned (.bool b201) ∧ Kp w0 w198 w200 ∧ Kp w20 w198 w200 ∧
 R (.returned (.bool b201)) w200))
 (R (.returned (.bool false)) w198))))))))))))))))))))))))))))))))))))
theorem fJ.vc {a0 a1 a2 a3 a4 w} (h : fJ.pre a0 a1 a2 a3 a4 w R) : Calls Tryz.prog iT #[a0, a1, a2, a3, a4] w R :=
 cq ⟨[(6, ⟨[(15, .int .i64)], [(0, [.int .i64, .int .i64, .int .i64, .int .i64, .int .i64, .slice, .slice, .slice, .slice, .int .i64, .int .i64, .slice, .int .i64, .int .i64, .slice, .slice])], []⟩), (39, ⟨[(28, .int .i64)], [], []⟩), (29, ⟨[(25, .int .i64)], [], []⟩), (23, ⟨[(24, .int .i64)], [], []⟩), (14, ⟨[(20, .int .i64)], [], []⟩)], [(13, ⟨[], [(0, [.int .i64, .int .i64, .int .i64, .int .i64, .int .i64, .slice, .slice, .slice, .slice, .int .i64, .int .i64, .slice, .int .i64, .int .i64, .slice, .slice])], []⟩)], []⟩ Tryz.func6 h
end Go.Proofs.YtalpkjfpmdpbiaaGreatDoor
