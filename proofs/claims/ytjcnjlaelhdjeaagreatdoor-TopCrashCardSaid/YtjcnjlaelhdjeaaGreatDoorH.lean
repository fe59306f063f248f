import Derived.Test.YtjcnjlaelhdjeaaGreatDoorA
import Derived.Shelf.Strings.Builder1
import Derived.Shelf.Strings.Builder2
import Derived.Shelf.Strings.OnBuilder
import Derived.Shelf.Strings.BuilderF
import Derived.Shelf.Strings.BuilderK
import Derived.Shelf.Utf8.RuneCount
import Derived.Shelf.Strings.Builder2Cap
import Derived.Shelf.Strconv.Itoa0
import Derived.Shelf.Strconv.Itoa1
import Derived.Shelf.LaysM
import Derived.Shelf.Strconv.Itoa2
import Derived.Shelf.Strconv.Itoa3
import Derived.Shelf.Strings.Search1
import Derived.Shelf.Strings.Search2
import Derived.Shelf.Strings.Search3
import Derived.Shelf.Strings.Count
import Derived.Shelf.Strings.Shaped
import Derived.Shelf.Strings.Split
import Derived.Shelf.Strings.SplitShaped
import Derived.Shelf.Unicode.Decode
import Derived.Shelf.Strings.RuneCount
import Derived.Shelf.Strings.Explode
import Derived.Shelf.Bits.Mul64
import Derived.Shelf.Unicode.DecodeSlow
import Derived.Shelf.Unicode.DecodeAny
import Derived.Shelf.Strings.FieldsFuncAny
import Derived.Shelf.Strings.FieldsFuncGrows
import Derived.Ground.Names2Prog
import Derived.Shelf.Slices.SearchI
import Derived.Test.YtjcnjlaelhdjeaaGreatDoorProg
set_option linter.all false
namespace Go.Proofs
open Go.Shelf
def Tryz.lays169_ren : Go.Shelf.Ren := ⟨fun | 169 => 63 | n => n, fun | 70 => 110 | 9 => 9 | 0 => 0 | 72 => 112 | 37 => 43 | 127 => 163 | 3 => 3 | 5 => 5 | n => n, fun | n => n⟩
theorem Tryz.lays169 : Go.Proofs.Lays.n169 Tryz.prog Tryz.lays169_ren := {
 mixed := by kernel_rfl
 f169 := Tryz.func63.trans (congrArg some (by kernel_rfl))
 t0 := Tryz.underlying0
 a0 := Tryz.isAgg0
 z0 := Tryz.sizeOf0
 v0 := Tryz.zeroValue0
 t3 := Tryz.underlying3
 a3 := Tryz.isAgg3
 z3 := Tryz.sizeOf3
 v3 := Tryz.zeroValue3
 t9 := Tryz.underlying9
 a9 := Tryz.isAgg9
 z9 := Tryz.sizeOf9
 v9 := Tryz.zeroValue9
 t37 := Tryz.underlying43
 a37 := Tryz.isAgg43
 z37 := Tryz.sizeOf43
 v37 := Tryz.zeroValue43
 t70 := Tryz.underlying110
 a70 := Tryz.isAgg110
 z70 := Tryz.sizeOf110
 v70 := Tryz.zeroValue110
 t72 := Tryz.underlying112
 a72 := Tryz.isAgg112
 z72 := Tryz.sizeOf112
 v72 := Tryz.zeroValue112
 t127 := Tryz.underlying163
 a127 := Tryz.isAgg163
 z127 := Tryz.sizeOf163
 v127 := Tryz.zeroValue163 }
theorem Tryz.Builder_Extra_169 : Builder.Extra Tryz.prog Tryz.lays169_ren := {
 sizeBuilder := by kernel_rfl
 liesBuilder := by kernel_rfl
 t5 := Tryz.underlying5
 a5 := Tryz.isAgg5
 z5 := Tryz.sizeOf5
 v5 := Tryz.zeroValue5
 infoByte := by kernel_rfl
 cellsByte := by kernel_rfl
 sizeByte := by kernel_rfl
 neB5 := by decide }
open Go.RowKit in
theorem Tryz.Builder_String_any (B b : Nat) (l : List UInt8) (w : World) (h : Lib.IsBuilder 112 5 B b (Lib.byteCells l) w) (hBw : B ≤ w.heap.size) :
  Calls Tryz.prog 63 #[.pointer (some ⟨b, 0, none⟩)] w fun e w' => e = .returned (.string ⟨l.toArray⟩) ∧ Below B w w' := Any.Builder_String_any Tryz.lays169 Tryz.Builder_Extra_169 B b l w h hBw
def Tryz.lays156_ren : Go.Shelf.Ren := ⟨fun | 156 => 226 | 165 => 283 | 166 => 62 | 169 => 63 | 240 => 117 | 241 => 332 | 276 => 180 | 277 => 368 | n => n, fun | 31 => 34 | 9 => 9 | 3 => 3 | 4 => 4 | 0 => 0 | 20 => 20 | 72 => 112 | 76 => 116 | 70 => 110 | 37 => 43 | 75 => 115 | 127 => 163 | 164 => 230 | 5 => 5 | 80 => 89 | n => n, fun | n => n⟩
theorem Tryz.lays156 : Go.Proofs.Lays.n156 Tryz.prog Tryz.lays156_ren := {
 mixed := by kernel_rfl
 f156 := Tryz.func226.trans (congrArg some (by kernel_rfl))
 f165 := Tryz.func283.trans (congrArg some (by kernel_rfl))
 f166 := Tryz.func62.trans (congrArg some (by kernel_rfl))
 f169 := Tryz.func63.trans (congrArg some (by kernel_rfl))
 f240 := Tryz.func117.trans (congrArg some (by kernel_rfl))
 f241 := Tryz.func332.trans (congrArg some (by kernel_rfl))
 f276 := Tryz.func180.trans (congrArg some (by kernel_rfl))
 f277 := Tryz.func368.trans (congrArg some (by kernel_rfl))
 t0 := Tryz.underlying0
 a0 := Tryz.isAgg0
 z0 := Tryz.sizeOf0
 v0 := Tryz.zeroValue0
 t3 := Tryz.underlying3
 a3 := Tryz.isAgg3
 z3 := Tryz.sizeOf3
 v3 := Tryz.zeroValue3
 t4 := Tryz.underlying4
 a4 := Tryz.isAgg4
 z4 := Tryz.sizeOf4
 v4 := Tryz.zeroValue4
 t9 := Tryz.underlying9
 a9 := Tryz.isAgg9
 z9 := Tryz.sizeOf9
 v9 := Tryz.zeroValue9
 t20 := Tryz.underlying20
 a20 := Tryz.isAgg20
 z20 := Tryz.sizeOf20
 v20 := Tryz.zeroValue20
 t31 := Tryz.underlying34
 a31 := Tryz.isAgg34
 z31 := Tryz.sizeOf34
 v31 := Tryz.zeroValue34
 t37 := Tryz.underlying43
 a37 := Tryz.isAgg43
 z37 := Tryz.sizeOf43
 v37 := Tryz.zeroValue43
 t70 := Tryz.underlying110
 a70 := Tryz.isAgg110
 z70 := Tryz.sizeOf110
 v70 := Tryz.zeroValue110
 t72 := Tryz.underlying112
 a72 := Tryz.isAgg112
 z72 := Tryz.sizeOf112
 v72 := Tryz.zeroValue112
 t75 := Tryz.underlying115
 a75 := Tryz.isAgg115
 z75 := Tryz.sizeOf115
 v75 := Tryz.zeroValue115
 t76 := Tryz.underlying116
 a76 := Tryz.isAgg116
 z76 := Tryz.sizeOf116
 v76 := Tryz.zeroValue116
 t127 := Tryz.underlying163
 a127 := Tryz.isAgg163
 z127 := Tryz.sizeOf163
 v127 := Tryz.zeroValue163
 t164 := Tryz.underlying230
 a164 := Tryz.isAgg230
 z164 := Tryz.sizeOf230
 v164 := Tryz.zeroValue230 }
theorem Tryz.Builder_Extra_156 : Builder.Extra Tryz.prog Tryz.lays156_ren := {
 sizeBuilder := by kernel_rfl
 liesBuilder := by kernel_rfl
 t5 := Tryz.underlying5
 a5 := Tryz.isAgg5
 z5 := Tryz.sizeOf5
 v5 := Tryz.zeroValue5
 infoByte := by kernel_rfl
 cellsByte := by kernel_rfl
 sizeByte := by kernel_rfl
 neB5 := by decide }
open Go.RowKit in
theorem Tryz.strings_Join_none (a : Option Addr) (c : Nat) (sep : ByteArray) (w : World) :
  Calls Tryz.prog 226 #[.slice a 0 c, .string sep] w fun e w' => e = .returned (.string ⟨#[]⟩) ∧ w' = w := Any.strings_Join_none Tryz.lays156 Tryz.Builder_Extra_156 a c sep w
open Go.RowKit in
theorem Tryz.strings_Join (bk o c : Nat) (xs : List ByteArray) (sep : ByteArray) (w : World) (hcells : ∀ (j : Nat) x, xs[j]? = some x → w.cell? ⟨bk, o + j, none⟩ = some (.string x)) (hbk : bk < w.heap.size) (hN : xs.length ≤ 140737488355328) (hcap : xs.length ≤ c) (hlen : (Lib.join (xs.map (·.data.toList)) sep.data.toList).length ≤ 140737488355328) :
  Calls Tryz.prog 226 #[.slice (some ⟨bk, o, none⟩) xs.length c, .string sep] w fun e w' => e = .returned (.string ⟨(Lib.join (xs.map (·.data.toList)) sep.data.toList).toArray⟩) ∧ Below w.heap.size w w' := Any.strings_Join Tryz.lays156 Tryz.Builder_Extra_156 bk o c xs sep w hcells hbk hN hcap hlen
def Tryz.laysM246_ren : Go.Shelf.Ren := ⟨fun | 246 => 331 | 283 => 364 | 284 => 365 | 285 => 366 | 286 => 367 | 129 => 382 | 317 => 381 | 318 => 383 | 319 => 384 | 320 => 385 | 337 => 392 | 338 => 393 | n => n, fun | 2 => 2 | 3 => 3 | 9 => 9 | 4 => 4 | 171 => 389 | 0 => 0 | 53 => 158 | 37 => 43 | 5 => 5 | 173 => 392 | 212 => 407 | 51 => 376 | 20 => 20 | 213 => 408 | 46 => 104 | 232 => 421 | 233 => 422 | n => n, fun | 17 => 3 | 18 => 4 | 19 => 5 | n => n⟩
def Tryz.laysM243_ren : Go.Shelf.Ren := ⟨fun | 243 => 282 | 246 => 331 | 283 => 364 | 284 => 365 | 285 => 366 | 286 => 367 | 129 => 382 | 317 => 381 | 318 => 383 | 319 => 384 | 320 => 385 | 337 => 392 | 338 => 393 | n => n, fun | 3 => 3 | 9 => 9 | 2 => 2 | 4 => 4 | 171 => 389 | 0 => 0 | 53 => 158 | 37 => 43 | 5 => 5 | 173 => 392 | 212 => 407 | 51 => 376 | 20 => 20 | 213 => 408 | 46 => 104 | 232 => 421 | 233 => 422 | n => n, fun | 17 => 3 | 18 => 4 | 19 => 5 | n => n⟩
def Tryz.laysM171_ren : Go.Shelf.Ren := ⟨fun | 171 => 224 | 243 => 282 | 246 => 331 | 283 => 364 | 284 => 365 | 285 => 366 | 286 => 367 | 129 => 382 | 317 => 381 | 318 => 383 | 319 => 384 | 320 => 385 | 337 => 392 | 338 => 393 | n => n, fun | 3 => 3 | 9 => 9 | 2 => 2 | 4 => 4 | 171 => 389 | 0 => 0 | 53 => 158 | 37 => 43 | 5 => 5 | 173 => 392 | 212 => 407 | 51 => 376 | 20 => 20 | 213 => 408 | 46 => 104 | 232 => 421 | 233 => 422 | n => n, fun | 17 => 3 | 18 => 4 | 19 => 5 | n => n⟩
theorem Tryz.laysM171 : Go.Proofs.LaysM.n171 Tryz.prog Tryz.laysM171_ren := {
 mixed := by kernel_rfl
 f129 := Tryz.func382.trans (congrArg some (by kernel_rfl))
 f171 := Tryz.func224.trans (congrArg some (by kernel_rfl))
 f243 := Tryz.func282.trans (congrArg some (by kernel_rfl))
 f246 := Tryz.func331.trans (congrArg some (by kernel_rfl))
 f283 := Tryz.func364.trans (congrArg some (by kernel_rfl))
 f284 := Tryz.func365.trans (congrArg some (by kernel_rfl))
 f285 := Tryz.func366.trans (congrArg some (by kernel_rfl))
 f286 := Tryz.func367.trans (congrArg some (by kernel_rfl))
 f317 := Tryz.func381.trans (congrArg some (by kernel_rfl))
 f318 := Tryz.func383.trans (congrArg some (by kernel_rfl))
 f319 := Tryz.func384.trans (congrArg some (by kernel_rfl))
 f320 := Tryz.func385.trans (congrArg some (by kernel_rfl))
 f337 := Tryz.func392.trans (congrArg some (by kernel_rfl))
 f338 := Tryz.func393.trans (congrArg some (by kernel_rfl))
 t0 := Tryz.underlying0
 a0 := Tryz.isAgg0
 z0 := Tryz.sizeOf0
 v0 := Tryz.zeroValue0
 t2 := Tryz.underlying2
 a2 := Tryz.isAgg2
 z2 := Tryz.sizeOf2
 v2 := Tryz.zeroValue2
 t3 := Tryz.underlying3
 a3 := Tryz.isAgg3
 z3 := Tryz.sizeOf3
 v3 := Tryz.zeroValue3
 t4 := Tryz.underlying4
 a4 := Tryz.isAgg4
 z4 := Tryz.sizeOf4
 v4 := Tryz.zeroValue4
 t5 := Tryz.underlying5
 a5 := Tryz.isAgg5
 z5 := Tryz.sizeOf5
 v5 := Tryz.zeroValue5
 t9 := Tryz.underlying9
 a9 := Tryz.isAgg9
 z9 := Tryz.sizeOf9
 v9 := Tryz.zeroValue9
 t20 := Tryz.underlying20
 a20 := Tryz.isAgg20
 z20 := Tryz.sizeOf20
 v20 := Tryz.zeroValue20
 t37 := Tryz.underlying43
 a37 := Tryz.isAgg43
 z37 := Tryz.sizeOf43
 v37 := Tryz.zeroValue43
 t46 := Tryz.underlying104
 a46 := Tryz.isAgg104
 z46 := Tryz.sizeOf104
 v46 := Tryz.zeroValue104
 t51 := Tryz.underlying376
 a51 := Tryz.isAgg376
 z51 := Tryz.sizeOf376
 v51 := Tryz.zeroValue376
 t53 := Tryz.underlying158
 a53 := Tryz.isAgg158
 z53 := Tryz.sizeOf158
 v53 := Tryz.zeroValue158
 t171 := Tryz.underlying389
 a171 := Tryz.isAgg389
 z171 := Tryz.sizeOf389
 v171 := Tryz.zeroValue389
 t173 := Tryz.underlying392
 a173 := Tryz.isAgg392
 z173 := Tryz.sizeOf392
 v173 := Tryz.zeroValue392
 t212 := Tryz.underlying407
 a212 := Tryz.isAgg407
 z212 := Tryz.sizeOf407
 v212 := Tryz.zeroValue407
 t213 := Tryz.underlying408
 a213 := Tryz.isAgg408
 z213 := Tryz.sizeOf408
 t232 := Tryz.underlying421
 a232 := Tryz.isAgg421
 z232 := Tryz.sizeOf421
 v232 := Tryz.zeroValue421
 t233 := Tryz.underlying422
 a233 := Tryz.isAgg422
 z233 := Tryz.sizeOf422
 v233 := Tryz.zeroValue422
 g17 := by kernel_rfl
 g18 := by kernel_rfl
 g19 := by kernel_rfl
 i0 := by kernel_rfl
 i2 := by kernel_rfl
 i3 := by kernel_rfl
 i4 := by kernel_rfl
 i5 := by kernel_rfl
 i9 := by kernel_rfl
 i20 := by kernel_rfl
 i37 := by kernel_rfl
 i46 := by kernel_rfl
 i51 := by kernel_rfl
 i53 := by kernel_rfl
 i171 := by kernel_rfl
 i173 := by kernel_rfl
 i212 := by kernel_rfl
 i232 := by kernel_rfl
 i233 := by kernel_rfl
 m17 := by kernel_rfl
 m18 := by kernel_rfl
 m19 := by kernel_rfl }
open Go.RowKit Go.Sort Go.Lib in
theorem Tryz.strconv_Itoa (n : Int) (h0 : -9223372036854775808 ≤ n) (h1 : n ≤ 9223372036854775807) (w : World) (htab : Lib.TabIs Tryz.prog w "internal/strconv.uint64pow10" .u64 Lib.pow10Tab) :
  Calls Tryz.prog 224 #[.int .i64 n] w fun e w' => e = .returned (.string ⟨(Lib.itoa n).toArray⟩) ∧ ∃ k os, w' = grow (w.drewN k) os := Any.strconv_Itoa Tryz.laysM171 n h0 h1 w htab
def Tryz.lays221_ren : Go.Shelf.Ren := ⟨fun | 221 => 116 | 268 => 177 | 138 => 178 | 143 => 179 | 195 => 243 | 197 => 244 | 218 => 245 | 219 => 246 | 260 => 298 | 217 => 299 | 225 => 300 | 224 => 301 | 267 => 302 | 266 => 350 | 314 => 351 | n => n, fun | 9 => 9 | 3 => 3 | 31 => 34 | 4 => 4 | 0 => 0 | 105 => 288 | 21 => 21 | 5 => 5 | 46 => 104 | 119 => 372 | 139 => 375 | 138 => 374 | 146 => 377 | 51 => 376 | n => n, fun | 1 => 0 | 3 => 1 | 4 => 2 | n => n⟩
def Tryz.lays146_ren : Go.Shelf.Ren := ⟨fun | 146 => 61 | 221 => 116 | 268 => 177 | 138 => 178 | 143 => 179 | 195 => 243 | 197 => 244 | 218 => 245 | 219 => 246 | 260 => 298 | 217 => 299 | 225 => 300 | 224 => 301 | 267 => 302 | 266 => 350 | 314 => 351 | n => n, fun | 9 => 9 | 31 => 34 | 3 => 3 | 4 => 4 | 0 => 0 | 105 => 288 | 21 => 21 | 5 => 5 | 46 => 104 | 119 => 372 | 139 => 375 | 138 => 374 | 146 => 377 | 51 => 376 | n => n, fun | 1 => 0 | 3 => 1 | 4 => 2 | n => n⟩
theorem Tryz.lays146 : Go.Proofs.Lays.n146 Tryz.prog Tryz.lays146_ren := {
 mixed := by kernel_rfl
 f138 := Tryz.func178.trans (congrArg some (by kernel_rfl))
 f143 := Tryz.func179.trans (congrArg some (by kernel_rfl))
 f146 := Tryz.func61.trans (congrArg some (by kernel_rfl))
 f195 := Tryz.func243.trans (congrArg some (by kernel_rfl))
 f197 := Tryz.func244.trans (congrArg some (by kernel_rfl))
 f217 := Tryz.func299.trans (congrArg some (by kernel_rfl))
 f218 := Tryz.func245.trans (congrArg some (by kernel_rfl))
 f219 := Tryz.func246.trans (congrArg some (by kernel_rfl))
 f221 := Tryz.func116.trans (congrArg some (by kernel_rfl))
 f224 := Tryz.func301.trans (congrArg some (by kernel_rfl))
 f225 := Tryz.func300.trans (congrArg some (by kernel_rfl))
 f260 := Tryz.func298.trans (congrArg some (by kernel_rfl))
 f266 := Tryz.func350.trans (congrArg some (by kernel_rfl))
 f267 := Tryz.func302.trans (congrArg some (by kernel_rfl))
 f268 := Tryz.func177.trans (congrArg some (by kernel_rfl))
 f314 := Tryz.func351.trans (congrArg some (by kernel_rfl))
 t0 := Tryz.underlying0
 a0 := Tryz.isAgg0
 z0 := Tryz.sizeOf0
 v0 := Tryz.zeroValue0
 t3 := Tryz.underlying3
 a3 := Tryz.isAgg3
 z3 := Tryz.sizeOf3
 v3 := Tryz.zeroValue3
 t4 := Tryz.underlying4
 a4 := Tryz.isAgg4
 z4 := Tryz.sizeOf4
 v4 := Tryz.zeroValue4
 t5 := Tryz.underlying5
 a5 := Tryz.isAgg5
 z5 := Tryz.sizeOf5
 v5 := Tryz.zeroValue5
 t9 := Tryz.underlying9
 a9 := Tryz.isAgg9
 z9 := Tryz.sizeOf9
 v9 := Tryz.zeroValue9
 t21 := Tryz.underlying21
 a21 := Tryz.isAgg21
 z21 := Tryz.sizeOf21
 v21 := Tryz.zeroValue21
 t31 := Tryz.underlying34
 a31 := Tryz.isAgg34
 z31 := Tryz.sizeOf34
 v31 := Tryz.zeroValue34
 t46 := Tryz.underlying104
 a46 := Tryz.isAgg104
 z46 := Tryz.sizeOf104
 v46 := Tryz.zeroValue104
 t51 := Tryz.underlying376
 a51 := Tryz.isAgg376
 z51 := Tryz.sizeOf376
 v51 := Tryz.zeroValue376
 t105 := Tryz.underlying288
 a105 := Tryz.isAgg288
 z105 := Tryz.sizeOf288
 v105 := Tryz.zeroValue288
 t119 := Tryz.underlying372
 a119 := Tryz.isAgg372
 z119 := Tryz.sizeOf372
 t138 := Tryz.underlying374
 a138 := Tryz.isAgg374
 z138 := Tryz.sizeOf374
 v138 := Tryz.zeroValue374
 t139 := Tryz.underlying375
 a139 := Tryz.isAgg375
 z139 := Tryz.sizeOf375
 v139 := Tryz.zeroValue375
 t146 := Tryz.underlying377
 a146 := Tryz.isAgg377
 z146 := Tryz.sizeOf377
 v146 := Tryz.zeroValue377
 g1 := by kernel_rfl
 g3 := by kernel_rfl
 g4 := by kernel_rfl }
open Go.RowKit Go.Lib in
theorem Tryz.strings_Split (s sep : ByteArray) (m : Int) (w : World) (hs : s.size < 4294967281) (hm : w.cell? ⟨0, 0, none⟩ = some (.int .i64 m)) (h1 : 1 ≤ sep.size) :
  Calls Tryz.prog 61 #[.string s, .string sep] w fun e w' =>
   e = .returned (.slice (some ⟨w.heap.size, 0, none⟩) (Lib.countB s sep + 1) (Lib.countB s sep + 1)) ∧ w' = w.alloc (.cells ((Lib.splitB sep 0 (Lib.countB s sep) s).map Value.string).toArray 9) := Any.strings_Split Tryz.lays146 (by kernel_rfl) s sep m w hs hm h1
def Tryz.lays229_ren : Go.Shelf.Ren := ⟨fun | 229 => 64 | n => n, fun | 9 => 9 | 40 => 119 | 31 => 34 | 152 => 164 | 3 => 3 | 0 => 0 | 4 => 4 | 21 => 21 | 154 => 166 | n => n, fun | n => n⟩
theorem Tryz.lays229 : Go.Proofs.Lays.n229 Tryz.prog Tryz.lays229_ren := {
 mixed := by kernel_rfl
 f229 := Tryz.func64.trans (congrArg some (by kernel_rfl))
 t0 := Tryz.underlying0
 a0 := Tryz.isAgg0
 z0 := Tryz.sizeOf0
 v0 := Tryz.zeroValue0
 t3 := Tryz.underlying3
 a3 := Tryz.isAgg3
 z3 := Tryz.sizeOf3
 v3 := Tryz.zeroValue3
 t4 := Tryz.underlying4
 a4 := Tryz.isAgg4
 z4 := Tryz.sizeOf4
 v4 := Tryz.zeroValue4
 t9 := Tryz.underlying9
 a9 := Tryz.isAgg9
 z9 := Tryz.sizeOf9
 v9 := Tryz.zeroValue9
 t21 := Tryz.underlying21
 a21 := Tryz.isAgg21
 z21 := Tryz.sizeOf21
 v21 := Tryz.zeroValue21
 t31 := Tryz.underlying34
 a31 := Tryz.isAgg34
 z31 := Tryz.sizeOf34
 v31 := Tryz.zeroValue34
 t40 := Tryz.underlying119
 a40 := Tryz.isAgg119
 z40 := Tryz.sizeOf119
 v40 := Tryz.zeroValue119
 t152 := Tryz.underlying164
 a152 := Tryz.isAgg164
 z152 := Tryz.sizeOf164
 v152 := Tryz.zeroValue164
 t154 := Tryz.underlying166
 a154 := Tryz.isAgg166
 z154 := Tryz.sizeOf166
 v154 := Tryz.zeroValue166 }
open Go.RowKit Go.Lib in
theorem Tryz.strings_FieldsFunc_grows (g : Nat) (lb : Array Value) (eg : ∀ args w, (callFunc g args).run Tryz.prog w = .ok (.enter g args) w) (p : Nat → Bool) (s : ByteArray) (w : World) (hs : s.size ≤ 4294967296) (hp : PredGrows Tryz.prog g lb p w) :
  Calls Tryz.prog 64 #[.string s, .func (.func g) #[] lb] w fun e w' => ∃ A, e = .returned (.slice (some ⟨A, 0, none⟩) (Lib.goFieldsP p s).length (Lib.goFieldsP p s).length) ∧ w.heap.size ≤ A ∧
   w'.ownsRow w.heap.size 9 1 (.slice (some ⟨A, 0, none⟩) (Lib.goFieldsP p s).length (Lib.goFieldsP p s).length) (Lib.goFieldsP p s).length ((Lib.goFieldsP p s).map Value.string) ∧ Below w.heap.size w w' := Any.strings_FieldsFunc_grows Tryz.lays229 g lb eg p s w hs hp (by kernel_rfl) (by kernel_rfl)
end Go.Proofs
