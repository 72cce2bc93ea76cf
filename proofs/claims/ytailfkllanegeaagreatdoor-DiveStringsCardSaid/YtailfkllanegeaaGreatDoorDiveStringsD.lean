/- Steps toward the row of this claim: part 4 of 7. Proved as named below, on no condition but those that each theorem states. -/
import Derived.Test.YtailfkllanegeaaGreatDoorDiveStringsC
import Derived.Test.YtailfkllanegeaaGreatDoorProg
import Derived.Shelf.Strings.Builder1
import Derived.Shelf.Strings.OnBuilder
import Derived.Shelf.Strings.BuilderK
import Derived.Shelf.LaysM
import Derived.Shelf.LaysC
import Derived.Shelf.Strconv.Itoa3
import Derived.Shelf.Strconv.AtoiAll
import Derived.Shelf.Strings.Search3
import Derived.Shelf.Strings.SplitCore
import Derived.Shelf.Strings.Prefix
import Derived.Shelf.Strings.Count
import Derived.Lib.AtoiAll
import Derived.Lib.ItoaNum
import Derived.Lib.ItoaLen
import Derived.Lib.Join
import Derived.Lib.Split
import Derived.Lib.SplitLaws
import Derived.Lib.AtoiErrMem
import Derived.Shelf.Spec.SlicesInsert
import Derived.Shelf.Spec.SlicesInsertGrow
import Derived.Shelf.Slices.Clone
set_option linter.unusedVariables false
set_option maxHeartbeats 2000000
set_option maxRecDepth 100000
namespace Go.Pw
open Go Go.Proofs
def lc141 : LCode :=
  (.seq (.region [⟨some 2, .boxS (.tmp 0), none⟩, ⟨some 3, .boxS (.tmp 1), none⟩, ⟨some 4, .alloc [(.slice none 0 0), (.slice none 0 0), (.slice none 0 0), (.slice none 0 0), (.int
    .i64 0), (.int .i64 0), (.int .i64 0), (.int .i64 0), (.int .i64 0), (.int .i64 0), (.int .i64 0), (.int .i64 0), (.slice none 0 0)], none⟩, ⟨some 5, .mv (.const (.int .i64 0)),
    none⟩]) (.seq (.region [⟨some 9, .load true 8 (.tmp 2), none⟩, ⟨some 10, .load true 5 (.tmp 3), none⟩, ⟨some 11, .call (.func 156) [(.tmp 9), (.tmp 10)], none⟩, ⟨some 8, .mv
    (.tmp 11), none⟩, ⟨some 12, .ext (.tmp 8) 0, none⟩, ⟨some 13, .ext (.tmp 8) 1, none⟩, ⟨some 6, .alloc [(.slice none 0 0), (.slice none 0 0), (.slice none 0 0), (.slice none 0
    0), (.int .i64 0), (.int .i64 0), (.int .i64 0), (.int .i64 0), (.int .i64 0), (.int .i64 0), (.int .i64 0), (.int .i64 0), (.slice none 0 0)], none⟩, ⟨none, .store 13 (.tmp 6)
    (.tmp 12), none⟩, ⟨some 7, .mv (.tmp 13), none⟩]) (.seq (.seq (.region [⟨some 14, .mv (.tmp 7), none⟩, ⟨some 15, .bin .eql (.tmp 14) (.const (.int .i64 0)), none⟩, ⟨some 16, .mv
    (.tmp 15), none⟩, ⟨some 17, .load true 13 (.tmp 6), some (16, true)⟩, ⟨some 18, .call (.func 165) [(.tmp 17)], some (16, true)⟩, ⟨some 19, .un .not (.tmp 18), some (16, true)⟩,
    ⟨some 20, .pick (.tmp 16) (.tmp 19) (.const (.bool false)), none⟩]) (.cond (.tmp 20) (.region [⟨some 7, .mv (.const (.int .i64 24)), none⟩]) .skip)) (.seq (.region [⟨some 21,
    .load true 13 (.tmp 6), none⟩, ⟨some 22, .mv (.tmp 7), none⟩, ⟨none, .store 13 (.tmp 4) (.tmp 21), none⟩, ⟨some 5, .mv (.tmp 22), none⟩]) .ret))))
theorem low141 : lowF Tryz.prog [2, 3] Tryz.f141 = some (23, lc141.strip, [.cell 4 true 13, .tmp 5]) := by kernel_rfl
theorem fn141 : FnOk Tryz.prog 141 23 lc141 [.cell 4 true 13, .tmp 5] := ⟨Tryz.call141, [2, 3], _, Tryz.func141, low141⟩
def ra142 : LCode :=
  (.region [⟨some 8, .mv (.tmp 13), none⟩])
def rb142 : LCode :=
  (.block 1 (.seq (.region [⟨some 14, .fld 0 (.tmp 2), none⟩, ⟨some 15, .load true 8 (.tmp 14), none⟩, ⟨some 16, .mv (.tmp 8), none⟩, ⟨some 17, .call (.func 163) [(.tmp 15), (.tmp
    16)], none⟩, ⟨some 9, .mv (.tmp 17), none⟩]) (.seq (.region [⟨some 18, .mv (.tmp 9), none⟩, ⟨some 19, .load false 1 (.tmp 7), none⟩, ⟨some 20, .bin .gtr (.tmp 18) (.tmp 19),
    none⟩]) (.cond (.tmp 20) (.region [⟨some 21, .mv (.tmp 8), none⟩, ⟨some 22, .call (.func 164) [(.tmp 21)], none⟩, ⟨some 23, .mv (.tmp 9), none⟩, ⟨none, .store 1 (.tmp 6) (.tmp
    22), none⟩, ⟨none, .store 1 (.tmp 7) (.tmp 23), none⟩]) .skip))))
def lc142 : LCode :=
  (.seq (.region [⟨some 2, .boxS (.tmp 0), none⟩, ⟨some 4, .mv (.const (.slice none 0 0)), none⟩, ⟨some 5, .mv (.const (.int .i64 0)), none⟩]) (.seq (.region [⟨some 6, .alloc
    [(.slice none 0 0)], none⟩]) (.seq (.region [⟨some 7, .alloc [(.int .i64 0)], none⟩, ⟨none, .store 1 (.tmp 7) (.const (.int .i64 0)), none⟩]) (.seq (.seq (.region [⟨some 10,
    .load true 13 (.tmp 2), none⟩, ⟨some 11, .mv (.tmp 1), none⟩, ⟨some 12, .call (.func 218) [(.tmp 10), (.tmp 11)], none⟩]) (.block 0 (.rangeFunc (.tmp 12) [13] ra142 rb142)))
    (.seq (.regionD [⟨some 24, .load false 1 (.tmp 6), none⟩, ⟨some 25, .load false 1 (.tmp 7), none⟩, ⟨some 4, .mv (.tmp 24), none⟩, ⟨some 5, .mv (.tmp 25), none⟩] [0, 0, 1, 7] [0,
    1, 2, 3]) .ret)))))
theorem low142 : lowF Tryz.prog [2] Tryz.f142 = some (26, lc142.strip, [.tmp 4, .tmp 5]) := by kernel_rfl
theorem fn142 : FnOk Tryz.prog 142 26 lc142 [.tmp 4, .tmp 5] := ⟨Tryz.call142, [2], _, Tryz.func142, low142⟩
def lc143 : LCode :=
  (.seq (.region [⟨some 2, .mv (.const (.bool false)), none⟩]) (.seq (.region [⟨some 2, .mv (.const (.bool true)), none⟩]) .ret))
theorem low143 : lowF Tryz.prog [] Tryz.f143 = some (3, lc143.strip, [.tmp 2]) := by kernel_rfl
theorem fn143 : FnOk Tryz.prog 143 3 lc143 [.tmp 2] := ⟨Tryz.call143, [], _, Tryz.func143, low143⟩
def lc144 : LCode :=
  (.seq (.region [⟨some 2, .boxS (.tmp 0), none⟩, ⟨some 4, .mv (.const (.bool false)), none⟩]) (.seq (.region [⟨some 5, .fld 8 (.tmp 2), none⟩, ⟨some 6, .fld 4 (.tmp 5), none⟩,
    ⟨some 7, .load false 1 (.tmp 6), none⟩, ⟨some 8, .mv (.tmp 1), none⟩, ⟨some 9, .call (.func 186) [(.tmp 7), (.tmp 8)], none⟩, ⟨some 4, .mv (.tmp 9), none⟩]) .ret))
theorem low144 : lowF Tryz.prog [2] Tryz.f144 = some (10, lc144.strip, [.tmp 4]) := by kernel_rfl
theorem fn144 : FnOk Tryz.prog 144 10 lc144 [.tmp 4] := ⟨Tryz.call144, [2], _, Tryz.func144, low144⟩
def lc148 : LCode :=
  (.seq (.region [⟨some 2, .mv (.const (.int .i64 0)), none⟩]) (.seq (.region [⟨some 3, .mv (.const (.int .i64 0)), none⟩]) (.seq (.seq (.region [⟨some 6, .mv (.tmp 0), none⟩, ⟨some
    7, .len (.tmp 6), none⟩, ⟨some 8, .mv (.const (.int .i64 0)), none⟩]) (.block 0 (.loop (.seq (.region [⟨some 9, .bin .lss (.tmp 8) (.tmp 7), none⟩]) (.seq (.cond (.tmp 9) .skip
    (.exit 0)) (.seq (.block 1 (.seq (.region [⟨some 10, .idx 1 (.tmp 6) (.tmp 8), none⟩, ⟨some 11, .load false 1 (.tmp 10), none⟩, ⟨some 5, .mv (.tmp 11), none⟩]) (.seq (.region
    [⟨some 12, .mv (.tmp 5), none⟩, ⟨some 13, .mv (.tmp 3), none⟩, ⟨some 14, .bin .neq (.tmp 12) (.tmp 13), none⟩]) (.cond (.tmp 14) (.seq (.region [⟨some 15, .mv (.tmp 5), none⟩,
    ⟨some 2, .mv (.tmp 15), none⟩]) .ret) .skip)))) (.region [⟨some 16, .bin .add (.tmp 8) (.const (.int .i64 1)), none⟩, ⟨some 8, .mv (.tmp 16), none⟩]))))))) (.seq (.region [⟨some
    17, .mv (.tmp 3), none⟩, ⟨some 2, .mv (.tmp 17), none⟩]) .ret))))
theorem low148 : lowF Tryz.prog [] Tryz.f148 = some (18, lc148.strip, [.tmp 2]) := by kernel_rfl
theorem fn148 : FnOk Tryz.prog 148 18 lc148 [.tmp 2] := ⟨Tryz.call148, [], _, Tryz.func148, low148⟩
def lc151 : LCode :=
  (.seq (.region [⟨some 2, .mv (.const (.int .i64 0)), none⟩]) (.seq (.seq (.region [⟨some 5, .mv (.tmp 0), none⟩, ⟨some 6, .len (.tmp 5), none⟩, ⟨some 7, .mv (.const (.int .i64
    0)), none⟩]) (.block 0 (.loop (.seq (.region [⟨some 8, .bin .lss (.tmp 7) (.tmp 6), none⟩]) (.seq (.cond (.tmp 8) .skip (.exit 0)) (.seq (.block 1 (.seq (.region [⟨some 9, .idx
    1 (.tmp 5) (.tmp 7), none⟩, ⟨some 10, .load false 1 (.tmp 9), none⟩, ⟨some 4, .mv (.tmp 10), none⟩]) (.seq (.region [⟨some 11, .mv (.tmp 4), none⟩, ⟨some 12, .bin .neq (.tmp 11)
    (.const (.int .i64 0)), none⟩]) (.cond (.tmp 12) (.seq (.region [⟨some 13, .mv (.tmp 4), none⟩, ⟨some 2, .mv (.tmp 13), none⟩]) .ret) .skip)))) (.region [⟨some 14, .bin .add
    (.tmp 7) (.const (.int .i64 1)), none⟩, ⟨some 7, .mv (.tmp 14), none⟩]))))))) (.seq (.region [⟨some 2, .mv (.const (.int .i64 0)), none⟩]) .ret)))
theorem low151 : lowF Tryz.prog [] Tryz.f151 = some (15, lc151.strip, [.tmp 2]) := by kernel_rfl
theorem fn151 : FnOk Tryz.prog 151 15 lc151 [.tmp 2] := ⟨Tryz.call151, [], _, Tryz.func151, low151⟩
def lc152 : LCode :=
  (.seq (.region [⟨some 4, .mv (.const (.int .i64 0)), none⟩]) (.seq (.seq (.region [⟨some 5, .mv (.tmp 0), none⟩]) (.cond (.tmp 5) (.seq (.region [⟨some 4, .mv (.const (.int .i64
    0)), none⟩]) .ret) .skip)) (.seq (.region [⟨some 6, .mv (.tmp 1), none⟩, ⟨some 4, .mv (.tmp 6), none⟩]) .ret)))
theorem low152 : lowF Tryz.prog [] Tryz.f152 = some (7, lc152.strip, [.tmp 4]) := by kernel_rfl
theorem fn152 : FnOk Tryz.prog 152 7 lc152 [.tmp 4] := ⟨Tryz.call152, [], _, Tryz.func152, low152⟩
def lc154 : LCode :=
  (.seq (.region [⟨some 2, .mv (.const (.bool false)), none⟩]) (.seq (.region [⟨some 3, .mv (.tmp 0), none⟩, ⟨some 4, .call (.func 168) [(.tmp 3), (.const (.int .i64 0)), (.const
    (.int .i64 10000))], none⟩, ⟨some 2, .mv (.tmp 4), none⟩]) .ret))
theorem low154 : lowF Tryz.prog [] Tryz.f154 = some (5, lc154.strip, [.tmp 2]) := by kernel_rfl
theorem fn154 : FnOk Tryz.prog 154 5 lc154 [.tmp 2] := ⟨Tryz.call154, [], _, Tryz.func154, low154⟩
def lc156 : LCode :=
  (.seq (.region [⟨some 2, .boxS (.tmp 0), none⟩, ⟨some 3, .boxS (.tmp 1), none⟩, ⟨some 4, .alloc [(.slice none 0 0), (.slice none 0 0), (.slice none 0 0), (.slice none 0 0), (.int
    .i64 0), (.int .i64 0), (.int .i64 0), (.int .i64 0), (.int .i64 0), (.int .i64 0), (.int .i64 0), (.int .i64 0), (.slice none 0 0)], none⟩, ⟨some 5, .mv (.const (.int .i64 0)),
    none⟩]) (.seq (.region [⟨some 11, .load true 8 (.tmp 2), none⟩, ⟨some 12, .call (.func 171) [(.tmp 11)], none⟩, ⟨some 10, .mv (.tmp 12), none⟩, ⟨some 13, .ext (.tmp 10) 0,
    none⟩, ⟨some 14, .ext (.tmp 10) 1, none⟩, ⟨some 6, .mv (.tmp 13), none⟩, ⟨some 7, .mv (.tmp 14), none⟩]) (.seq (.region [⟨some 16, .load true 8 (.tmp 2), none⟩, ⟨some 17, .load
    true 5 (.tmp 3), none⟩, ⟨some 18, .call (.func 219) [(.tmp 16), (.tmp 17)], none⟩, ⟨some 15, .mv (.tmp 18), none⟩, ⟨some 19, .ext (.tmp 15) 0, none⟩, ⟨some 20, .ext (.tmp 15) 1,
    none⟩, ⟨some 8, .mv (.tmp 19), none⟩, ⟨some 9, .mv (.tmp 20), none⟩]) (.seq (.regionD [⟨some 21, .load true 8 (.tmp 2), none⟩, ⟨some 22, .load true 5 (.tmp 3), none⟩, ⟨some 23,
    .build [(.slice none 0 0), (.slice none 0 0), (.slice none 0 0), (.slice none 0 0), (.int .i64 0), (.int .i64 0), (.int .i64 0), (.int .i64 0), (.int .i64 0), (.int .i64 0),
    (.int .i64 0), (.int .i64 0), (.slice none 0 0)] [(0, 8, (.tmp 21)), (8, 5, (.tmp 22))], none⟩, ⟨some 24, .mv (.tmp 7), none⟩, ⟨some 25, .mv (.tmp 9), none⟩, ⟨some 26, .lit
    false 34 1 [(.tmp 24), (.tmp 25)], none⟩, ⟨some 27, .call (.func 151) [(.tmp 26)], none⟩, ⟨none, .store 13 (.tmp 4) (.tmp 23), none⟩, ⟨some 5, .mv (.tmp 27), none⟩] [0, 0, 3, 0,
    0, 24, 56, 127, 255] [0, 1, 2, 3, 4, 5, 6, 7, 8]) .ret))))
theorem low156 : lowF Tryz.prog [2, 3] Tryz.f156 = some (28, lc156.strip, [.cell 4 true 13, .tmp 5]) := by kernel_rfl
theorem fn156 : FnOk Tryz.prog 156 28 lc156 [.cell 4 true 13, .tmp 5] := ⟨Tryz.call156, [2, 3], _, Tryz.func156, low156⟩
def lc158 : LCode :=
  (.seq (.region [⟨some 4, .mv (.const (.bool false)), none⟩]) (.seq (.region [⟨some 5, .mv (.tmp 0), none⟩, ⟨some 6, .mv (.tmp 1), none⟩, ⟨some 7, .call (.func 222) [(.tmp 5),
    (.tmp 6)], none⟩, ⟨some 8, .bin .geq (.tmp 7) (.const (.int .i64 0)), none⟩, ⟨some 4, .mv (.tmp 8), none⟩]) .ret))
theorem low158 : lowF Tryz.prog [] Tryz.f158 = some (9, lc158.strip, [.tmp 4]) := by kernel_rfl
theorem fn158 : FnOk Tryz.prog 158 9 lc158 [.tmp 4] := ⟨Tryz.call158, [], _, Tryz.func158, low158⟩
def lc159 : LCode :=
  (.seq (.region [⟨some 2, .boxS (.tmp 0), none⟩, ⟨some 4, .mv (.const (.bool false)), none⟩]) (.seq (.seq (.region [⟨some 11, .mv (.tmp 1), none⟩, ⟨some 12, .len (.tmp 11), none⟩,
    ⟨some 13, .bin .eql (.tmp 12) (.const (.int .i64 0)), none⟩]) (.cond (.tmp 13) (.seq (.region [⟨some 4, .mv (.const (.bool true)), none⟩]) .ret) .skip)) (.seq (.seq (.region
    [⟨some 14, .mv (.tmp 1), none⟩, ⟨some 15, .len (.tmp 14), none⟩, ⟨some 16, .mv (.const (.int .i64 0)), none⟩]) (.block 0 (.loop (.seq (.region [⟨some 17, .bin .lss (.tmp 16)
    (.tmp 15), none⟩]) (.seq (.cond (.tmp 17) .skip (.exit 0)) (.seq (.block 1 (.seq (.region [⟨some 18, .mv (.tmp 16), none⟩, ⟨some 19, .idx 1 (.tmp 14) (.tmp 16), none⟩, ⟨some 20,
    .load false 1 (.tmp 19), none⟩, ⟨some 5, .mv (.tmp 18), none⟩, ⟨some 6, .mv (.tmp 20), none⟩]) (.seq (.regionD [⟨some 21, .mv (.tmp 1), none⟩, ⟨some 22, .mv (.tmp 5), none⟩,
    ⟨some 23, .slc 1 (.tmp 21) none (some (.tmp 22)), none⟩, ⟨some 24, .mv (.tmp 1), none⟩, ⟨some 25, .mv (.tmp 5), none⟩, ⟨some 26, .bin .add (.tmp 25) (.const (.int .i64 1)),
    none⟩, ⟨some 27, .slc 1 (.tmp 24) (some (.tmp 26)) none, none⟩, ⟨some 28, .lit false 49 1 [(.tmp 23), (.tmp 27)], none⟩, ⟨some 29, .call (.func 223) [(.tmp 28)], none⟩, ⟨some 7,
    .alloc [(.slice none 0 0)], none⟩, ⟨none, .store 1 (.tmp 7) (.tmp 29), none⟩] [0, 0, 3, 0, 0, 16, 56, 127, 255, 0, 1023] [0, 1, 2, 3, 4, 5, 6, 7, 8, 9, 10]) (.seq (.region
    [⟨some 30, .fld 0 (.tmp 2), none⟩, ⟨some 31, .fld 0 (.tmp 30), none⟩, ⟨some 32, .load false 1 (.tmp 31), none⟩, ⟨some 33, .mv (.tmp 6), none⟩, ⟨some 34, .idx 9 (.tmp 32) (.tmp
    33), none⟩, ⟨some 35, .fld 8 (.tmp 34), none⟩, ⟨some 36, .load false 1 (.tmp 35), none⟩, ⟨some 37, .mkfn 224 [(.tmp 7)], none⟩, ⟨some 38, .call (.func 158) [(.tmp 36), (.tmp
    37)], none⟩, ⟨some 8, .mv (.tmp 38), none⟩]) (.seq (.seq (.region [⟨some 39, .mv (.tmp 8), none⟩]) (.cond (.tmp 39) (.exit 1) .skip)) (.seq (.region [⟨some 41, .load true 13
    (.tmp 2), none⟩, ⟨some 42, .mv (.tmp 6), none⟩, ⟨some 43, .call (.func 225) [(.tmp 41), (.tmp 42)], none⟩, ⟨some 40, .mv (.tmp 43), none⟩, ⟨some 44, .ext (.tmp 40) 0, none⟩,
    ⟨some 45, .ext (.tmp 40) 1, none⟩, ⟨some 9, .alloc [(.slice none 0 0), (.slice none 0 0), (.slice none 0 0), (.slice none 0 0), (.int .i64 0), (.int .i64 0), (.int .i64 0),
    (.int .i64 0), (.int .i64 0), (.int .i64 0), (.int .i64 0), (.int .i64 0), (.slice none 0 0)], none⟩, ⟨none, .store 13 (.tmp 9) (.tmp 44), none⟩, ⟨some 10, .mv (.tmp 45),
    none⟩]) (.seq (.region [⟨some 46, .mv (.tmp 10), none⟩, ⟨some 47, .bin .eql (.tmp 46) (.const (.int .i64 0)), none⟩, ⟨some 48, .mv (.tmp 47), none⟩, ⟨some 49, .load true 13
    (.tmp 9), some (48, true)⟩, ⟨some 50, .load false 1 (.tmp 7), some (48, true)⟩, ⟨some 51, .call (.func 159) [(.tmp 49), (.tmp 50)], some (48, true)⟩, ⟨some 52, .pick (.tmp 48)
    (.tmp 51) (.const (.bool false)), none⟩]) (.cond (.tmp 52) (.seq (.region [⟨some 4, .mv (.const (.bool true)), none⟩]) .ret) .skip)))))))) (.region [⟨some 53, .bin .add (.tmp
    16) (.const (.int .i64 1)), none⟩, ⟨some 16, .mv (.tmp 53), none⟩]))))))) (.seq (.region [⟨some 4, .mv (.const (.bool false)), none⟩]) .ret))))
theorem low159 : lowF Tryz.prog [2] Tryz.f159 = some (54, lc159.strip, [.tmp 4]) := by kernel_rfl
theorem fn159 : FnOk Tryz.prog 159 54 lc159 [.tmp 4] := ⟨Tryz.call159, [2], _, Tryz.func159, low159⟩
def lc160 : LCode :=
  (.seq (.region [⟨some 4, .mv (.const (.int .i64 0)), none⟩]) (.seq (.region [⟨some 7, .mv (.tmp 0), none⟩, ⟨some 8, .call (.func 226) [(.tmp 7)], none⟩, ⟨some 5, .mv (.tmp 8),
    none⟩]) (.seq (.region [⟨some 9, .mv (.tmp 1), none⟩, ⟨some 10, .call (.func 226) [(.tmp 9)], none⟩, ⟨some 6, .mv (.tmp 10), none⟩]) (.seq (.seq (.region [⟨some 11, .mv (.tmp
    5), none⟩]) (.cond (.tmp 11) (.seq (.seq (.region [⟨some 12, .mv (.tmp 6), none⟩]) (.cond (.tmp 12) (.seq (.region [⟨some 4, .mv (.const (.int .i64 0)), none⟩]) .ret) .skip))
    (.seq (.region [⟨some 4, .mv (.const (.int .i64 (-1))), none⟩]) .ret)) .skip)) (.seq (.seq (.region [⟨some 13, .mv (.tmp 6), none⟩]) (.cond (.tmp 13) (.seq (.region [⟨some 4,
    .mv (.const (.int .i64 1)), none⟩]) .ret) .skip)) (.seq (.seq (.region [⟨some 14, .mv (.tmp 0), none⟩, ⟨some 15, .mv (.tmp 1), none⟩, ⟨some 16, .bin .lss (.tmp 14) (.tmp 15),
    none⟩]) (.cond (.tmp 16) (.seq (.region [⟨some 4, .mv (.const (.int .i64 (-1))), none⟩]) .ret) .skip)) (.seq (.seq (.region [⟨some 17, .mv (.tmp 0), none⟩, ⟨some 18, .mv (.tmp
    1), none⟩, ⟨some 19, .bin .gtr (.tmp 17) (.tmp 18), none⟩]) (.cond (.tmp 19) (.seq (.region [⟨some 4, .mv (.const (.int .i64 1)), none⟩]) .ret) .skip)) (.seq (.region [⟨some 4,
    .mv (.const (.int .i64 0)), none⟩]) .ret))))))))
theorem low160 : lowF Tryz.prog [] Tryz.f160 = some (20, lc160.strip, [.tmp 4]) := by kernel_rfl
theorem fn160 : FnOk Tryz.prog 160 20 lc160 [.tmp 4] := ⟨Tryz.call160, [], _, Tryz.func160, low160⟩
def lc161 : LCode :=
  (.seq (.region [⟨some 4, .mv (.const (.int .i64 0)), none⟩]) (.seq (.seq (.region [⟨some 9, .mv (.tmp 0), none⟩, ⟨some 10, .len (.tmp 9), none⟩, ⟨some 11, .mv (.const (.int .i64
    0)), none⟩]) (.block 0 (.loop (.seq (.region [⟨some 12, .bin .lss (.tmp 11) (.tmp 10), none⟩]) (.seq (.cond (.tmp 12) .skip (.exit 0)) (.seq (.block 1 (.seq (.region [⟨some 13,
    .mv (.tmp 11), none⟩, ⟨some 14, .idx 1 (.tmp 9) (.tmp 11), none⟩, ⟨some 15, .load false 1 (.tmp 14), none⟩, ⟨some 5, .mv (.tmp 13), none⟩, ⟨some 6, .mv (.tmp 15), none⟩]) (.seq
    (.seq (.region [⟨some 16, .mv (.tmp 5), none⟩, ⟨some 17, .mv (.tmp 1), none⟩, ⟨some 18, .len (.tmp 17), none⟩, ⟨some 19, .bin .geq (.tmp 16) (.tmp 18), none⟩]) (.cond (.tmp 19)
    (.seq (.region [⟨some 4, .mv (.const (.int .i64 1)), none⟩]) .ret) .skip)) (.seq (.region [⟨some 20, .mv (.tmp 1), none⟩, ⟨some 21, .mv (.tmp 5), none⟩, ⟨some 22, .idx 1 (.tmp
    20) (.tmp 21), none⟩, ⟨some 23, .load false 1 (.tmp 22), none⟩, ⟨some 7, .mv (.tmp 23), none⟩]) (.seq (.region [⟨some 24, .mv (.tmp 6), none⟩, ⟨some 25, .mv (.tmp 7), none⟩,
    ⟨some 26, .call (.func 160) [(.tmp 24), (.tmp 25)], none⟩, ⟨some 8, .mv (.tmp 26), none⟩]) (.seq (.region [⟨some 27, .mv (.tmp 8), none⟩, ⟨some 28, .bin .neq (.tmp 27) (.const
    (.int .i64 0)), none⟩]) (.cond (.tmp 28) (.seq (.region [⟨some 29, .mv (.tmp 8), none⟩, ⟨some 4, .mv (.tmp 29), none⟩]) .ret) .skip))))))) (.region [⟨some 30, .bin .add (.tmp
    11) (.const (.int .i64 1)), none⟩, ⟨some 11, .mv (.tmp 30), none⟩]))))))) (.seq (.seq (.region [⟨some 31, .mv (.tmp 0), none⟩, ⟨some 32, .len (.tmp 31), none⟩, ⟨some 33, .mv
    (.tmp 1), none⟩, ⟨some 34, .len (.tmp 33), none⟩, ⟨some 35, .bin .lss (.tmp 32) (.tmp 34), none⟩]) (.cond (.tmp 35) (.seq (.region [⟨some 4, .mv (.const (.int .i64 (-1))),
    none⟩]) .ret) .skip)) (.seq (.region [⟨some 4, .mv (.const (.int .i64 0)), none⟩]) .ret))))
theorem low161 : lowF Tryz.prog [] Tryz.f161 = some (36, lc161.strip, [.tmp 4]) := by kernel_rfl
theorem fn161 : FnOk Tryz.prog 161 36 lc161 [.tmp 4] := ⟨Tryz.call161, [], _, Tryz.func161, low161⟩
def lc163 : LCode :=
  (.seq (.region [⟨some 2, .boxS (.tmp 0), none⟩, ⟨some 4, .mv (.const (.int .i64 0)), none⟩]) (.seq (.region [⟨some 5, .mv (.const (.int .i64 0)), none⟩]) (.seq (.seq (.region
    [⟨some 8, .mv (.tmp 1), none⟩, ⟨some 9, .len (.tmp 8), none⟩, ⟨some 10, .mv (.const (.int .i64 0)), none⟩]) (.block 0 (.loop (.seq (.region [⟨some 11, .bin .lss (.tmp 10) (.tmp
    9), none⟩]) (.seq (.cond (.tmp 11) .skip (.exit 0)) (.seq (.block 1 (.seq (.region [⟨some 12, .idx 1 (.tmp 8) (.tmp 10), none⟩, ⟨some 13, .load false 1 (.tmp 12), none⟩, ⟨some
    7, .mv (.tmp 13), none⟩]) (.region [⟨some 14, .mv (.tmp 5), none⟩, ⟨some 15, .fld 0 (.tmp 2), none⟩, ⟨some 16, .load false 1 (.tmp 15), none⟩, ⟨some 17, .mv (.tmp 7), none⟩,
    ⟨some 18, .idx 9 (.tmp 16) (.tmp 17), none⟩, ⟨some 19, .fld 5 (.tmp 18), none⟩, ⟨some 20, .load false 1 (.tmp 19), none⟩, ⟨some 21, .bin .add (.tmp 14) (.tmp 20), none⟩, ⟨some
    5, .mv (.tmp 21), none⟩]))) (.region [⟨some 22, .bin .add (.tmp 10) (.const (.int .i64 1)), none⟩, ⟨some 10, .mv (.tmp 22), none⟩]))))))) (.seq (.region [⟨some 23, .mv (.tmp 5),
    none⟩, ⟨some 4, .mv (.tmp 23), none⟩]) .ret))))
theorem low163 : lowF Tryz.prog [2] Tryz.f163 = some (24, lc163.strip, [.tmp 4]) := by kernel_rfl
theorem fn163 : FnOk Tryz.prog 163 24 lc163 [.tmp 4] := ⟨Tryz.call163, [2], _, Tryz.func163, low163⟩
def lc164 : LCode :=
  (.seq (.region [⟨some 2, .mv (.const (.slice none 0 0)), none⟩]) (.seq (.seq (.region [⟨some 3, .mv (.tmp 0), none⟩, ⟨some 4, .isnil false (.tmp 3), none⟩]) (.cond (.tmp 4) (.seq
    (.region [⟨some 2, .mv (.const (.slice none 0 0)), none⟩]) .ret) .skip)) (.seq (.region [⟨some 5, .lit false 3 1 [], none⟩, ⟨some 6, .mv (.tmp 0), none⟩, ⟨some 7, .append true 3
    1 8 (.tmp 5) (.tmp 6), none⟩, ⟨some 2, .mv (.tmp 7), none⟩]) .ret)))
theorem low164 : lowF Tryz.prog [7] Tryz.f164 = some (8, lc164.strip, [.tmp 2]) := by kernel_rfl
theorem fn164 : FnOk Tryz.prog 164 8 lc164 [.tmp 2] := ⟨Tryz.call164, [7], _, Tryz.func164, low164⟩
def lc165 : LCode :=
  (.seq (.region [⟨some 1, .boxS (.tmp 0), none⟩, ⟨some 2, .mv (.const (.bool false)), none⟩]) (.seq (.region [⟨some 4, .load true 13 (.tmp 1), none⟩, ⟨some 5, .call (.func 167)
    [(.tmp 4)], none⟩, ⟨some 3, .alloc [(.int .i64 0), (.int .i64 0)], none⟩, ⟨none, .store 2 (.tmp 3) (.tmp 5), none⟩]) (.seq (.region [⟨some 6, .fld 8 (.tmp 1), none⟩, ⟨some 7,
    .fld 2 (.tmp 6), none⟩, ⟨some 8, .load false 1 (.tmp 7), none⟩, ⟨some 9, .fld 1 (.tmp 3), none⟩, ⟨some 10, .load false 1 (.tmp 9), none⟩, ⟨some 11, .bin .sub (.tmp 8) (.tmp 10),
    none⟩, ⟨some 12, .fld 0 (.tmp 1), none⟩, ⟨some 13, .fld 6 (.tmp 12), none⟩, ⟨some 14, .load false 1 (.tmp 13), none⟩, ⟨some 15, .bin .geq (.tmp 11) (.tmp 14), none⟩, ⟨some 16,
    .mv (.tmp 15), none⟩, ⟨some 17, .fld 8 (.tmp 1), some (16, true)⟩, ⟨some 18, .fld 1 (.tmp 17), some (16, true)⟩, ⟨some 19, .load false 1 (.tmp 18), some (16, true)⟩, ⟨some 20,
    .fld 0 (.tmp 3), some (16, true)⟩, ⟨some 21, .load false 1 (.tmp 20), some (16, true)⟩, ⟨some 22, .bin .add (.tmp 19) (.tmp 21), some (16, true)⟩, ⟨some 23, .fld 0 (.tmp 1),
    some (16, true)⟩, ⟨some 24, .fld 7 (.tmp 23), some (16, true)⟩, ⟨some 25, .load false 1 (.tmp 24), some (16, true)⟩, ⟨some 26, .bin .leq (.tmp 22) (.tmp 25), some (16, true)⟩,
    ⟨some 27, .pick (.tmp 16) (.tmp 26) (.const (.bool false)), none⟩, ⟨some 2, .mv (.tmp 27), none⟩]) .ret)))
theorem low165 : lowF Tryz.prog [1] Tryz.f165 = some (28, lc165.strip, [.tmp 2]) := by kernel_rfl
theorem fn165 : FnOk Tryz.prog 165 28 lc165 [.tmp 2] := ⟨Tryz.call165, [1], _, Tryz.func165, low165⟩
def lc166 : LCode :=
  (.seq (.region [⟨some 2, .box (.tmp 0), none⟩, ⟨some 4, .alloc [(.slice none 0 0), (.slice none 0 0), (.slice none 0 0), (.slice none 0 0), (.int .i64 0), (.int .i64 0), (.int
    .i64 0), (.int .i64 0), (.int .i64 0), (.int .i64 0), (.int .i64 0), (.int .i64 0), (.slice none 0 0)], none⟩]) (.seq (.region [⟨some 5, .fld 8 (.tmp 2), none⟩, ⟨some 6, .fld 2
    (.tmp 5), none⟩, ⟨some 7, .load false 1 (.tmp 6), none⟩, ⟨some 8, .mv (.tmp 1), none⟩, ⟨some 9, .fld 8 (.tmp 2), none⟩, ⟨some 10, .fld 1 (.tmp 9), none⟩, ⟨some 11, .load false 1
    (.tmp 10), none⟩, ⟨some 12, .bin .sub (.tmp 8) (.tmp 11), none⟩, ⟨some 13, .fld 0 (.tmp 2), none⟩, ⟨some 14, .fld 4 (.tmp 13), none⟩, ⟨some 15, .load false 1 (.tmp 14), none⟩,
    ⟨some 16, .bin .mul (.tmp 12) (.tmp 15), none⟩, ⟨some 17, .bin .sub (.tmp 7) (.tmp 16), none⟩, ⟨some 18, .fld 8 (.tmp 2), none⟩, ⟨some 19, .fld 2 (.tmp 18), none⟩, ⟨none, .store
    1 (.tmp 19) (.tmp 17), none⟩]) (.seq (.region [⟨some 20, .mv (.tmp 1), none⟩, ⟨some 21, .fld 8 (.tmp 2), none⟩, ⟨some 22, .fld 1 (.tmp 21), none⟩, ⟨none, .store 1 (.tmp 22)
    (.tmp 20), none⟩]) (.seq (.region [⟨some 23, .load true 13 (.tmp 2), none⟩, ⟨none, .store 13 (.tmp 4) (.tmp 23), none⟩]) .ret))))
theorem low166 : lowF Tryz.prog [] Tryz.f166 = some (24, lc166.strip, [.cell 4 true 13]) := by kernel_rfl
theorem fn166 : FnOk Tryz.prog 166 24 lc166 [.cell 4 true 13] := ⟨Tryz.call166, [], _, Tryz.func166, low166⟩
def lc167 : LCode :=
  (.seq (.region [⟨some 1, .boxS (.tmp 0), none⟩, ⟨some 2, .alloc [(.int .i64 0), (.int .i64 0)], none⟩]) (.seq (.regionD [⟨some 4, .load true 13 (.tmp 1), none⟩, ⟨some 5, .fld 0
    (.tmp 1), none⟩, ⟨some 6, .fld 2 (.tmp 5), none⟩, ⟨some 7, .load false 1 (.tmp 6), none⟩, ⟨some 8, .fld 8 (.tmp 1), none⟩, ⟨some 9, .fld 0 (.tmp 8), none⟩, ⟨some 10, .load false
    1 (.tmp 9), none⟩, ⟨some 11, .idx 1 (.tmp 7) (.tmp 10), none⟩, ⟨some 12, .load false 1 (.tmp 11), none⟩, ⟨some 13, .fld 8 (.tmp 1), none⟩, ⟨some 14, .fld 1 (.tmp 13), none⟩,
    ⟨some 15, .load false 1 (.tmp 14), none⟩, ⟨some 16, .call (.func 227) [(.tmp 4), (.tmp 12), (.tmp 15)], none⟩, ⟨some 3, .mv (.tmp 16), none⟩] [0, 0, 2, 6, 0, 16, 48, 126, 254,
    0, 512, 1536, 4095, 8191] [0, 1, 2, 3, 4, 5, 6, 7, 8, 9, 10, 11, 12, 13]) (.seq (.region [⟨some 17, .mv (.tmp 3), none⟩, ⟨some 18, .mv (.tmp 3), none⟩, ⟨some 19, .fld 0 (.tmp
    1), none⟩, ⟨some 20, .fld 5 (.tmp 19), none⟩, ⟨some 21, .load false 1 (.tmp 20), none⟩, ⟨some 22, .bin .mul (.tmp 18) (.tmp 21), none⟩, ⟨some 23, .build [(.int .i64 0), (.int
    .i64 0)] [(0, 1, (.tmp 17)), (1, 1, (.tmp 22))], none⟩, ⟨none, .store 2 (.tmp 2) (.tmp 23), none⟩]) .ret)))
theorem low167 : lowF Tryz.prog [1] Tryz.f167 = some (24, lc167.strip, [.cell 2 true 2]) := by kernel_rfl
theorem fn167 : FnOk Tryz.prog 167 24 lc167 [.cell 2 true 2] := ⟨Tryz.call167, [1], _, Tryz.func167, low167⟩
def lc168 : LCode :=
  (.seq (.region [⟨some 6, .mv (.const (.bool false)), none⟩]) (.seq (.region [⟨some 7, .mv (.tmp 1), none⟩, ⟨some 8, .mv (.tmp 0), none⟩, ⟨some 9, .bin .leq (.tmp 7) (.tmp 8),
    none⟩, ⟨some 10, .mv (.tmp 9), none⟩, ⟨some 11, .mv (.tmp 0), some (10, true)⟩, ⟨some 12, .mv (.tmp 2), some (10, true)⟩, ⟨some 13, .bin .leq (.tmp 11) (.tmp 12), some (10,
    true)⟩, ⟨some 14, .pick (.tmp 10) (.tmp 13) (.const (.bool false)), none⟩, ⟨some 6, .mv (.tmp 14), none⟩]) .ret))
theorem low168 : lowF Tryz.prog [] Tryz.f168 = some (15, lc168.strip, [.tmp 6]) := by kernel_rfl
theorem fn168 : FnOk Tryz.prog 168 15 lc168 [.tmp 6] := ⟨Tryz.call168, [], _, Tryz.func168, low168⟩
def lc171 : LCode :=
  (.seq (.region [⟨some 1, .box (.tmp 0), none⟩, ⟨some 2, .mv (.const (.int .i64 0)), none⟩, ⟨some 3, .mv (.const (.int .i64 0)), none⟩]) (.seq (.seq (.region [⟨some 16, .fld 0
    (.tmp 1), none⟩, ⟨some 17, .load false 1 (.tmp 16), none⟩, ⟨some 18, .call (.func 113) [(.tmp 17)], none⟩, ⟨some 15, .mv (.tmp 18), none⟩, ⟨some 19, .ext (.tmp 15) 0, none⟩,
    ⟨some 20, .ext (.tmp 15) 1, none⟩, ⟨some 4, .mv (.tmp 19), none⟩, ⟨some 5, .mv (.tmp 20), none⟩]) (.seq (.region [⟨some 21, .mv (.tmp 5), none⟩, ⟨some 22, .bin .neq (.tmp 21)
    (.const (.int .i64 0)), none⟩]) (.cond (.tmp 22) (.seq (.region [⟨some 23, .mv (.tmp 4), none⟩, ⟨some 24, .mv (.tmp 5), none⟩, ⟨some 2, .mv (.tmp 23), none⟩, ⟨some 3, .mv (.tmp
    24), none⟩]) .ret) .skip))) (.seq (.region [⟨some 25, .fld 2 (.tmp 1), none⟩, ⟨some 26, .load false 1 (.tmp 25), none⟩, ⟨some 27, .len (.tmp 26), none⟩, ⟨some 6, .alloc [(.int
    .i64 0)], none⟩, ⟨none, .store 1 (.tmp 6) (.tmp 27), none⟩]) (.seq (.seq (.regionD [⟨some 28, .load false 1 (.tmp 6), none⟩, ⟨some 29, .bin .gtr (.tmp 28) (.const (.int .i64
    0)), none⟩, ⟨some 30, .call (.func 152) [(.tmp 29), (.const (.int .i64 10))], none⟩, ⟨some 31, .load false 1 (.tmp 6), none⟩, ⟨some 32, .bin .leq (.tmp 31) (.const (.int .i64
    5)), none⟩, ⟨some 33, .call (.func 152) [(.tmp 32), (.const (.int .i64 8))], none⟩, ⟨some 34, .fld 1 (.tmp 1), none⟩, ⟨some 35, .load false 1 (.tmp 34), none⟩, ⟨some 36, .len
    (.tmp 35), none⟩, ⟨some 37, .load false 1 (.tmp 6), none⟩, ⟨some 38, .bin .eql (.tmp 36) (.tmp 37), none⟩, ⟨some 39, .call (.func 152) [(.tmp 38), (.const (.int .i64 10))],
    none⟩, ⟨some 40, .lit false 34 1 [(.tmp 30), (.tmp 33), (.tmp 39)], none⟩, ⟨some 41, .call (.func 151) [(.tmp 40)], none⟩, ⟨some 7, .mv (.tmp 41), none⟩] [0, 1, 3, 0, 8, 31, 0,
    64, 192, 0, 960, 2047, 4095, 8191, 16383] [0, 1, 2, 3, 4, 5, 6, 7, 8, 9, 10, 11, 12, 13, 14]) (.seq (.region [⟨some 42, .mv (.tmp 7), none⟩, ⟨some 43, .bin .neq (.tmp 42)
    (.const (.int .i64 0)), none⟩]) (.cond (.tmp 43) (.seq (.region [⟨some 44, .mv (.tmp 7), none⟩, ⟨some 2, .mv (.const (.int .i64 0)), none⟩, ⟨some 3, .mv (.tmp 44), none⟩]) .ret)
    .skip))) (.seq (.seq (.region [⟨some 46, .fld 2 (.tmp 1), none⟩, ⟨some 47, .load false 1 (.tmp 46), none⟩, ⟨some 48, .mkfn 229 [(.tmp 1), (.tmp 6)], none⟩, ⟨some 49, .call
    (.func 220) [(.tmp 47), (.tmp 48)], none⟩, ⟨some 45, .mv (.tmp 49), none⟩, ⟨some 50, .ext (.tmp 45) 0, none⟩, ⟨some 51, .ext (.tmp 45) 1, none⟩, ⟨some 8, .mv (.tmp 50), none⟩,
    ⟨some 9, .mv (.tmp 51), none⟩]) (.seq (.region [⟨some 52, .mv (.tmp 9), none⟩, ⟨some 53, .bin .neq (.tmp 52) (.const (.int .i64 0)), none⟩]) (.cond (.tmp 53) (.seq (.region
    [⟨some 54, .mv (.tmp 8), none⟩, ⟨some 55, .mv (.tmp 9), none⟩, ⟨some 2, .mv (.tmp 54), none⟩, ⟨some 3, .mv (.tmp 55), none⟩]) .ret) .skip))) (.seq (.seq (.region [⟨some 57, .fld
    0 (.tmp 1), none⟩, ⟨some 58, .load false 1 (.tmp 57), none⟩, ⟨some 59, .mkfn 231 [(.tmp 6)], none⟩, ⟨some 60, .call (.func 199) [(.tmp 58), (.tmp 59)], none⟩, ⟨some 56, .mv
    (.tmp 60), none⟩, ⟨some 61, .ext (.tmp 56) 0, none⟩, ⟨some 62, .ext (.tmp 56) 1, none⟩, ⟨some 10, .mv (.tmp 61), none⟩, ⟨some 11, .mv (.tmp 62), none⟩]) (.seq (.region [⟨some
    63, .mv (.tmp 11), none⟩, ⟨some 64, .bin .neq (.tmp 63) (.const (.int .i64 0)), none⟩]) (.cond (.tmp 64) (.seq (.region [⟨some 65, .mv (.tmp 10), none⟩, ⟨some 66, .mv (.tmp 11),
    none⟩, ⟨some 2, .mv (.tmp 65), none⟩, ⟨some 3, .mv (.tmp 66), none⟩]) .ret) .skip))) (.seq (.seq (.region [⟨some 67, .fld 3 (.tmp 1), none⟩, ⟨some 68, .load false 1 (.tmp 67),
    none⟩, ⟨some 69, .len (.tmp 68), none⟩, ⟨some 70, .bin .gtr (.tmp 69) (.const (.int .i64 6)), none⟩]) (.cond (.tmp 70) (.seq (.region [⟨some 2, .mv (.const (.int .i64 0)),
    none⟩, ⟨some 3, .mv (.const (.int .i64 8)), none⟩]) .ret) .skip)) (.seq (.region [⟨some 12, .alloc [(.int .i64 0)], none⟩, ⟨none, .store 1 (.tmp 12) (.const (.int .i64 (-1))),
    none⟩]) (.seq (.seq (.region [⟨some 72, .fld 3 (.tmp 1), none⟩, ⟨some 73, .load false 1 (.tmp 72), none⟩, ⟨some 74, .mkfn 233 [(.tmp 12)], none⟩, ⟨some 75, .call (.func 232)
    [(.tmp 73), (.tmp 74)], none⟩, ⟨some 71, .mv (.tmp 75), none⟩, ⟨some 76, .ext (.tmp 71) 0, none⟩, ⟨some 77, .ext (.tmp 71) 1, none⟩, ⟨some 13, .mv (.tmp 76), none⟩, ⟨some 14,
    .mv (.tmp 77), none⟩]) (.seq (.region [⟨some 78, .mv (.tmp 14), none⟩, ⟨some 79, .bin .neq (.tmp 78) (.const (.int .i64 0)), none⟩]) (.cond (.tmp 79) (.seq (.region [⟨some 80,
    .mv (.tmp 13), none⟩, ⟨some 81, .mv (.tmp 14), none⟩, ⟨some 2, .mv (.tmp 80), none⟩, ⟨some 3, .mv (.tmp 81), none⟩]) .ret) .skip))) (.seq (.region [⟨some 82, .fld 4 (.tmp 1),
    none⟩, ⟨some 83, .load false 1 (.tmp 82), none⟩, ⟨some 84, .call (.func 154) [(.tmp 83)], none⟩, ⟨some 85, .mv (.tmp 84), none⟩, ⟨some 86, .fld 5 (.tmp 1), some (85, true)⟩,
    ⟨some 87, .load false 1 (.tmp 86), some (85, true)⟩, ⟨some 88, .call (.func 154) [(.tmp 87)], some (85, true)⟩, ⟨some 89, .pick (.tmp 85) (.tmp 88) (.const (.bool false)),
    none⟩, ⟨some 90, .mv (.tmp 89), none⟩, ⟨some 91, .fld 6 (.tmp 1), some (90, true)⟩, ⟨some 92, .load false 1 (.tmp 91), some (90, true)⟩, ⟨some 93, .call (.func 154) [(.tmp 92)],
    some (90, true)⟩, ⟨some 94, .pick (.tmp 90) (.tmp 93) (.const (.bool false)), none⟩, ⟨some 95, .mv (.tmp 94), none⟩, ⟨some 96, .fld 7 (.tmp 1), some (95, true)⟩, ⟨some 97, .load
    false 1 (.tmp 96), some (95, true)⟩, ⟨some 98, .call (.func 234) [(.tmp 97)], some (95, true)⟩, ⟨some 99, .pick (.tmp 95) (.tmp 98) (.const (.bool false)), none⟩, ⟨some 100,
    .call (.func 152) [(.tmp 99), (.const (.int .i64 2))], none⟩, ⟨some 2, .mv (.const (.int .i64 0)), none⟩, ⟨some 3, .mv (.tmp 100), none⟩]) .ret))))))))))
theorem low171 : lowF Tryz.prog [] Tryz.f171 = some (101, lc171.strip, [.tmp 2, .tmp 3]) := by kernel_rfl
theorem fn171 : FnOk Tryz.prog 171 101 lc171 [.tmp 2, .tmp 3] := ⟨Tryz.call171, [], _, Tryz.func171, low171⟩
def lc186 : LCode :=
  (.seq (.region [⟨some 4, .mv (.const (.bool false)), none⟩]) (.seq (.region [⟨some 5, .mv (.tmp 0), none⟩, ⟨some 6, .mv (.tmp 1), none⟩, ⟨some 7, .call (.func 250) [(.tmp 5),
    (.tmp 6)], none⟩, ⟨some 8, .bin .geq (.tmp 7) (.const (.int .i64 0)), none⟩, ⟨some 4, .mv (.tmp 8), none⟩]) .ret))
theorem low186 : lowF Tryz.prog [] Tryz.f186 = some (9, lc186.strip, [.tmp 4]) := by kernel_rfl
theorem fn186 : FnOk Tryz.prog 186 9 lc186 [.tmp 4] := ⟨Tryz.call186, [], _, Tryz.func186, low186⟩
def lc194 : LCode :=
  (.seq (.region [⟨some 4, .mv (.const (.int .i64 0)), none⟩, ⟨some 5, .mv (.const (.bool false)), none⟩]) (.seq (.region [⟨some 6, .mv (.const (.int .i64 0)), none⟩]) (.seq (.seq
    (.region [⟨some 9, .mv (.tmp 0), none⟩, ⟨some 10, .lenS (.tmp 9), none⟩, ⟨some 11, .bin .gtr (.tmp 10) (.const (.int .i64 0)), none⟩, ⟨some 12, .mv (.tmp 11), none⟩, ⟨some 13,
    .mv (.tmp 0), some (12, true)⟩, ⟨some 14, .indexS (.tmp 13) (.const (.int .i64 0)), some (12, true)⟩, ⟨some 15, .bin .eql (.tmp 14) (.const (.int .u8 45)), some (12, true)⟩,
    ⟨some 16, .pick (.tmp 12) (.tmp 15) (.const (.bool false)), none⟩]) (.cond (.tmp 16) (.region [⟨some 6, .mv (.const (.int .i64 1)), none⟩]) .skip)) (.seq (.seq (.region [⟨some
    17, .mv (.tmp 0), none⟩, ⟨some 18, .lenS (.tmp 17), none⟩, ⟨some 19, .mv (.tmp 6), none⟩, ⟨some 20, .bin .eql (.tmp 18) (.tmp 19), none⟩, ⟨some 21, .mv (.tmp 20), none⟩, ⟨some
    22, .mv (.tmp 0), some (21, false)⟩, ⟨some 23, .lenS (.tmp 22), some (21, false)⟩, ⟨some 24, .mv (.tmp 6), some (21, false)⟩, ⟨some 25, .bin .sub (.tmp 23) (.tmp 24), some (21,
    false)⟩, ⟨some 26, .mv (.tmp 1), some (21, false)⟩, ⟨some 27, .bin .gtr (.tmp 25) (.tmp 26), some (21, false)⟩, ⟨some 28, .pick (.tmp 21) (.const (.bool true)) (.tmp 27), none⟩,
    ⟨some 29, .mv (.tmp 28), none⟩, ⟨some 30, .mv (.tmp 0), some (29, false)⟩, ⟨some 31, .mv (.tmp 6), some (29, false)⟩, ⟨some 32, .indexS (.tmp 30) (.tmp 31), some (29, false)⟩,
    ⟨some 33, .bin .eql (.tmp 32) (.const (.int .u8 48)), some (29, false)⟩, ⟨some 34, .mv (.tmp 33), some (29, false)⟩, ⟨some 35, .mv (.tmp 0), some (34, true)⟩, ⟨some 36, .lenS
    (.tmp 35), some (34, true)⟩, ⟨some 37, .bin .gtr (.tmp 36) (.const (.int .i64 1)), some (34, true)⟩, ⟨some 38, .pick (.tmp 34) (.tmp 37) (.const (.bool false)), some (29,
    false)⟩, ⟨some 39, .pick (.tmp 29) (.const (.bool true)) (.tmp 38), none⟩]) (.cond (.tmp 39) (.seq (.region [⟨some 4, .mv (.const (.int .i64 0)), none⟩, ⟨some 5, .mv (.const
    (.bool false)), none⟩]) .ret) .skip)) (.seq (.region [⟨some 7, .mv (.const (.int .i64 0)), none⟩]) (.seq (.seq (.region [⟨some 40, .mv (.tmp 6), none⟩, ⟨some 8, .mv (.tmp 40),
    none⟩]) (.block 0 (.loop (.seq (.seq (.region [⟨some 41, .mv (.tmp 8), none⟩, ⟨some 42, .mv (.tmp 0), none⟩, ⟨some 43, .lenS (.tmp 42), none⟩, ⟨some 44, .bin .lss (.tmp 41)
    (.tmp 43), none⟩]) (.cond (.tmp 44) .skip (.exit 0))) (.seq (.block 1 (.seq (.seq (.region [⟨some 47, .mv (.tmp 0), none⟩, ⟨some 48, .mv (.tmp 8), none⟩, ⟨some 49, .indexS (.tmp
    47) (.tmp 48), none⟩, ⟨some 50, .bin .lss (.tmp 49) (.const (.int .u8 48)), none⟩, ⟨some 51, .mv (.tmp 50), none⟩, ⟨some 52, .mv (.tmp 0), some (51, false)⟩, ⟨some 53, .mv (.tmp
    8), some (51, false)⟩, ⟨some 54, .indexS (.tmp 52) (.tmp 53), some (51, false)⟩, ⟨some 55, .bin .gtr (.tmp 54) (.const (.int .u8 57)), some (51, false)⟩, ⟨some 56, .pick (.tmp
    51) (.const (.bool true)) (.tmp 55), none⟩]) (.cond (.tmp 56) (.seq (.region [⟨some 4, .mv (.const (.int .i64 0)), none⟩, ⟨some 5, .mv (.const (.bool false)), none⟩]) .ret)
    .skip)) (.region [⟨some 57, .mv (.tmp 7), none⟩, ⟨some 58, .bin .mul (.const (.int .i64 10)) (.tmp 57), none⟩, ⟨some 59, .mv (.tmp 0), none⟩, ⟨some 60, .mv (.tmp 8), none⟩,
    ⟨some 61, .indexS (.tmp 59) (.tmp 60), none⟩, ⟨some 62, .bin .sub (.tmp 61) (.const (.int .u8 48)), none⟩, ⟨some 63, .conv .i64 (.tmp 62), none⟩, ⟨some 64, .bin .add (.tmp 58)
    (.tmp 63), none⟩, ⟨some 7, .mv (.tmp 64), none⟩]))) (.region [⟨some 45, .mv (.tmp 8), none⟩, ⟨some 46, .bin .add (.tmp 45) (.const (.int .i64 1)), none⟩, ⟨some 8, .mv (.tmp 46),
    none⟩])))))) (.seq (.seq (.region [⟨some 65, .mv (.tmp 6), none⟩, ⟨some 66, .bin .eql (.tmp 65) (.const (.int .i64 1)), none⟩]) (.cond (.tmp 66) (.region [⟨some 67, .mv (.tmp
    7), none⟩, ⟨some 68, .un .neg (.tmp 67), none⟩, ⟨some 7, .mv (.tmp 68), none⟩]) .skip)) (.seq (.region [⟨some 69, .mv (.tmp 7), none⟩, ⟨some 4, .mv (.tmp 69), none⟩, ⟨some 5,
    .mv (.const (.bool true)), none⟩]) .ret))))))))
theorem low194 : lowF Tryz.prog [] Tryz.f194 = some (70, lc194.strip, [.tmp 4, .tmp 5]) := by kernel_rfl
theorem fn194 : FnOk Tryz.prog 194 70 lc194 [.tmp 4, .tmp 5] := ⟨Tryz.call194, [], _, Tryz.func194, low194⟩
def lc196 : LCode :=
  (.seq (.region [⟨some 2, .boxS (.tmp 0), none⟩, ⟨some 4, .alloc [(.slice none 0 0), (.slice none 0 0), (.slice none 0 0), (.slice none 0 0), (.int .i64 0), (.int .i64 0), (.int
    .i64 0), (.int .i64 0), (.int .i64 0), (.int .i64 0), (.int .i64 0), (.int .i64 0), (.slice none 0 0)], none⟩, ⟨some 5, .mv (.const (.int .i64 0)), none⟩]) (.seq (.seq (.region
    [⟨some 8, .mv (.tmp 1), none⟩, ⟨some 9, .fld 0 (.tmp 2), none⟩, ⟨some 10, .fld 0 (.tmp 9), none⟩, ⟨some 11, .load false 1 (.tmp 10), none⟩, ⟨some 12, .len (.tmp 11), none⟩,
    ⟨some 13, .bin .sub (.tmp 12) (.const (.int .i64 1)), none⟩, ⟨some 14, .call (.func 168) [(.tmp 8), (.const (.int .i64 0)), (.tmp 13)], none⟩, ⟨some 15, .un .not (.tmp 14),
    none⟩]) (.cond (.tmp 15) (.seq (.region [⟨some 16, .load true 13 (.tmp 2), none⟩, ⟨none, .store 13 (.tmp 4) (.tmp 16), none⟩, ⟨some 5, .mv (.const (.int .i64 6)), none⟩]) .ret)
    .skip)) (.seq (.region [⟨some 17, .fld 0 (.tmp 2), none⟩, ⟨some 18, .fld 0 (.tmp 17), none⟩, ⟨some 19, .load false 1 (.tmp 18), none⟩, ⟨some 20, .mv (.tmp 1), none⟩, ⟨some 21,
    .idx 9 (.tmp 19) (.tmp 20), none⟩, ⟨some 22, .fld 8 (.tmp 21), none⟩, ⟨some 23, .load false 1 (.tmp 22), none⟩, ⟨some 24, .mkfn 254 [(.tmp 2)], none⟩, ⟨some 25, .call (.func
    158) [(.tmp 23), (.tmp 24)], none⟩, ⟨some 6, .mv (.tmp 25), none⟩]) (.seq (.seq (.region [⟨some 26, .load true 13 (.tmp 2), none⟩, ⟨some 27, .mv (.tmp 1), none⟩, ⟨some 28, .call
    (.func 144) [(.tmp 26), (.tmp 27)], none⟩, ⟨some 29, .un .not (.tmp 28), none⟩, ⟨some 30, .call (.func 152) [(.tmp 29), (.const (.int .i64 23))], none⟩, ⟨some 31, .mv (.tmp 6),
    none⟩, ⟨some 32, .un .not (.tmp 31), none⟩, ⟨some 33, .call (.func 152) [(.tmp 32), (.const (.int .i64 9))], none⟩, ⟨some 34, .lit false 34 1 [(.tmp 30), (.tmp 33)], none⟩,
    ⟨some 35, .call (.func 151) [(.tmp 34)], none⟩, ⟨some 7, .mv (.tmp 35), none⟩]) (.seq (.region [⟨some 36, .mv (.tmp 7), none⟩, ⟨some 37, .bin .neq (.tmp 36) (.const (.int .i64
    0)), none⟩]) (.cond (.tmp 37) (.seq (.region [⟨some 38, .load true 13 (.tmp 2), none⟩, ⟨some 39, .mv (.tmp 7), none⟩, ⟨none, .store 13 (.tmp 4) (.tmp 38), none⟩, ⟨some 5, .mv
    (.tmp 39), none⟩]) .ret) .skip))) (.seq (.region [⟨some 40, .load true 13 (.tmp 2), none⟩, ⟨some 41, .mv (.tmp 1), none⟩, ⟨some 42, .call (.func 225) [(.tmp 40), (.tmp 41)],
    none⟩, ⟨some 43, .ext (.tmp 42) 0, none⟩, ⟨some 44, .ext (.tmp 42) 1, none⟩, ⟨none, .store 13 (.tmp 4) (.tmp 43), none⟩, ⟨some 5, .mv (.tmp 44), none⟩]) .ret)))))
theorem low196 : lowF Tryz.prog [2] Tryz.f196 = some (45, lc196.strip, [.cell 4 true 13, .tmp 5]) := by kernel_rfl
theorem fn196 : FnOk Tryz.prog 196 45 lc196 [.cell 4 true 13, .tmp 5] := ⟨Tryz.call196, [2], _, Tryz.func196, low196⟩
def lc197 : LCode :=
  (.seq (.region [⟨some 3, .box (.tmp 0), none⟩, ⟨some 4, .box (.tmp 1), none⟩, ⟨some 5, .box (.tmp 2), none⟩, ⟨some 6, .mv (.const .nilFunc), none⟩]) (.seq (.region [⟨some 7, .mkfn
    255 [(.tmp 4), (.tmp 3), (.tmp 5)], none⟩, ⟨some 6, .mv (.tmp 7), none⟩]) .ret))
theorem low197 : lowF Tryz.prog [] Tryz.f197 = some (8, lc197.strip, [.tmp 6]) := by kernel_rfl
theorem fn197 : FnOk Tryz.prog 197 8 lc197 [.tmp 6] := ⟨Tryz.call197, [], _, Tryz.func197, low197⟩
def lc198 : LCode :=
  (.seq (.region [⟨some 4, .mv (.const (.string ⟨#[]⟩)), none⟩, ⟨some 5, .mv (.const (.string ⟨#[]⟩)), none⟩, ⟨some 6, .mv (.const (.bool false)), none⟩]) (.seq (.seq (.region
    [⟨some 8, .mv (.tmp 0), none⟩, ⟨some 9, .mv (.tmp 1), none⟩, ⟨some 10, .call (.func 257) [(.tmp 8), (.tmp 9)], none⟩, ⟨some 7, .mv (.tmp 10), none⟩]) (.seq (.region [⟨some 11,
    .mv (.tmp 7), none⟩, ⟨some 12, .bin .geq (.tmp 11) (.const (.int .i64 0)), none⟩]) (.cond (.tmp 12) (.seq (.regionD [⟨some 13, .mv (.tmp 0), none⟩, ⟨some 14, .mv (.tmp 7),
    none⟩, ⟨some 15, .slcS (.tmp 13) none (some (.tmp 14)), none⟩, ⟨some 16, .mv (.tmp 0), none⟩, ⟨some 17, .mv (.tmp 7), none⟩, ⟨some 18, .mv (.tmp 1), none⟩, ⟨some 19, .lenS (.tmp
    18), none⟩, ⟨some 20, .bin .add (.tmp 17) (.tmp 19), none⟩, ⟨some 21, .slcS (.tmp 16) (some (.tmp 20)) none, none⟩, ⟨some 4, .mv (.tmp 15), none⟩, ⟨some 5, .mv (.tmp 21), none⟩,
    ⟨some 6, .mv (.const (.bool true)), none⟩] [0, 0, 3, 0, 0, 0, 32, 112, 248, 7, 1023, 2047] [0, 1, 2, 3, 4, 5, 6, 7, 8, 9, 10, 11]) .ret) .skip))) (.seq (.region [⟨some 22, .mv
    (.tmp 0), none⟩, ⟨some 4, .mv (.tmp 22), none⟩, ⟨some 5, .mv (.const (.string ⟨#[]⟩)), none⟩, ⟨some 6, .mv (.const (.bool false)), none⟩]) .ret)))
theorem low198 : lowF Tryz.prog [] Tryz.f198 = some (23, lc198.strip, [.tmp 4, .tmp 5, .tmp 6]) := by kernel_rfl
theorem fn198 : FnOk Tryz.prog 198 23 lc198 [.tmp 4, .tmp 5, .tmp 6] := ⟨Tryz.call198, [], _, Tryz.func198, low198⟩
def lc199 : LCode :=
  (.seq (.region [⟨some 4, .mv (.const (.int .i64 0)), none⟩, ⟨some 5, .mv (.const (.int .i64 0)), none⟩]) (.seq (.seq (.region [⟨some 9, .mv (.tmp 0), none⟩, ⟨some 10, .len (.tmp
    9), none⟩, ⟨some 11, .mv (.const (.int .i64 0)), none⟩]) (.block 0 (.loop (.seq (.region [⟨some 12, .bin .lss (.tmp 11) (.tmp 10), none⟩]) (.seq (.cond (.tmp 12) .skip (.exit
    0)) (.seq (.block 1 (.seq (.region [⟨some 13, .mv (.tmp 11), none⟩, ⟨some 14, .idx 9 (.tmp 9) (.tmp 11), none⟩, ⟨some 15, .load true 9 (.tmp 14), none⟩, ⟨some 7, .alloc
    [(.string ⟨#[]⟩), (.int .i64 0), (.int .i64 0), (.int .i64 0), (.int .i64 0), (.int .i64 0), (.int .i64 0), (.int .i64 0), (.slice none 0 0)], none⟩, ⟨some 6, .mv (.tmp 13),
    none⟩, ⟨none, .store 9 (.tmp 7) (.tmp 15), none⟩]) (.seq (.region [⟨some 16, .mv (.tmp 1), none⟩, ⟨some 17, .mv (.tmp 6), none⟩, ⟨some 18, .load true 9 (.tmp 7), none⟩, ⟨some
    19, .call (.tmp 16) [(.tmp 17), (.tmp 18)], none⟩, ⟨some 8, .mv (.tmp 19), none⟩]) (.seq (.region [⟨some 20, .mv (.tmp 8), none⟩, ⟨some 21, .bin .neq (.tmp 20) (.const (.int
    .i64 0)), none⟩]) (.cond (.tmp 21) (.seq (.region [⟨some 22, .mv (.tmp 6), none⟩, ⟨some 23, .mv (.tmp 8), none⟩, ⟨some 4, .mv (.tmp 22), none⟩, ⟨some 5, .mv (.tmp 23), none⟩])
    .ret) .skip))))) (.region [⟨some 24, .bin .add (.tmp 11) (.const (.int .i64 1)), none⟩, ⟨some 11, .mv (.tmp 24), none⟩]))))))) (.seq (.region [⟨some 4, .mv (.const (.int .i64
    0)), none⟩, ⟨some 5, .mv (.const (.int .i64 0)), none⟩]) .ret)))
theorem low199 : lowF Tryz.prog [] Tryz.f199 = some (25, lc199.strip, [.tmp 4, .tmp 5]) := by kernel_rfl
theorem fn199 : FnOk Tryz.prog 199 25 lc199 [.tmp 4, .tmp 5] := ⟨Tryz.call199, [], _, Tryz.func199, low199⟩
def lc200 : LCode :=
  (.seq (.region [⟨some 4, .boxS (.tmp 1), none⟩, ⟨some 5, .mv (.const (.int .i64 0)), none⟩]) (.seq (.region [⟨some 9, .load false 1 (.tmp 2), none⟩, ⟨some 10, .mv (.tmp 0), none⟩,
    ⟨some 11, .slc 9 (.tmp 9) none (some (.tmp 10)), none⟩, ⟨some 12, .mkfn 202 [(.tmp 4)], none⟩, ⟨some 13, .call (.func 201) [(.tmp 11), (.tmp 12)], none⟩, ⟨some 6, .mv (.tmp 13),
    none⟩]) (.seq (.region [⟨some 14, .fld 2 (.tmp 4), none⟩, ⟨some 15, .load false 1 (.tmp 14), none⟩, ⟨some 16, .fld 3 (.tmp 4), none⟩, ⟨some 17, .load false 1 (.tmp 16), none⟩,
    ⟨some 18, .fld 4 (.tmp 4), none⟩, ⟨some 19, .load false 1 (.tmp 18), none⟩, ⟨some 20, .fld 5 (.tmp 4), none⟩, ⟨some 21, .load false 1 (.tmp 20), none⟩, ⟨some 22, .lit false 3 1
    [(.tmp 15), (.tmp 17), (.tmp 19), (.tmp 21)], none⟩, ⟨some 23, .call (.func 158) [(.tmp 22), (.func 203)], none⟩, ⟨some 7, .mv (.tmp 23), none⟩]) (.seq (.seq (.regionD [⟨some
    24, .fld 0 (.tmp 4), none⟩, ⟨some 25, .load false 1 (.tmp 24), none⟩, ⟨some 26, .call (.func 204) [(.tmp 25)], none⟩, ⟨some 27, .call (.func 152) [(.tmp 26), (.const (.int .i64
    4))], none⟩, ⟨some 28, .mv (.tmp 6), none⟩, ⟨some 29, .un .not (.tmp 28), none⟩, ⟨some 30, .call (.func 152) [(.tmp 29), (.const (.int .i64 5))], none⟩, ⟨some 31, .fld 1 (.tmp
    4), none⟩, ⟨some 32, .load false 1 (.tmp 31), none⟩, ⟨some 33, .call (.func 168) [(.tmp 32), (.const (.int .i64 0)), (.const (.int .i64 4))], none⟩, ⟨some 34, .mv (.tmp 33),
    none⟩, ⟨some 35, .mv (.tmp 7), some (34, true)⟩, ⟨some 36, .un .not (.tmp 35), some (34, true)⟩, ⟨some 37, .pick (.tmp 34) (.tmp 36) (.const (.bool false)), none⟩, ⟨some 38,
    .call (.func 152) [(.tmp 37), (.const (.int .i64 2))], none⟩, ⟨some 39, .fld 6 (.tmp 4), none⟩, ⟨some 40, .load true 2 (.tmp 39), none⟩, ⟨some 41, .call (.func 205) [(.tmp 40)],
    none⟩, ⟨some 42, .lit false 34 1 [(.tmp 27), (.tmp 30), (.tmp 38), (.tmp 41)], none⟩, ⟨some 43, .call (.func 151) [(.tmp 42)], none⟩, ⟨some 8, .mv (.tmp 43), none⟩] [0, 1, 3, 7,
    0, 16, 63, 0, 128, 511, 1023, 2047, 4095, 8191, 16383, 0, 32768, 131071, 262143, 524287, 1048575] [0, 1, 2, 3, 4, 5, 6, 7, 8, 9, 10, 11, 12, 13, 14, 15, 16, 17, 18, 19, 20])
    (.seq (.region [⟨some 44, .mv (.tmp 8), none⟩, ⟨some 45, .bin .neq (.tmp 44) (.const (.int .i64 0)), none⟩]) (.cond (.tmp 45) (.seq (.region [⟨some 46, .mv (.tmp 8), none⟩,
    ⟨some 5, .mv (.tmp 46), none⟩]) .ret) .skip))) (.seq (.region [⟨some 47, .fld 8 (.tmp 4), none⟩, ⟨some 48, .load false 1 (.tmp 47), none⟩, ⟨some 49, .mv (.tmp 0), none⟩, ⟨some
    50, .call (.func 206) [(.tmp 48), (.tmp 49)], none⟩, ⟨some 5, .mv (.tmp 50), none⟩]) .ret)))))
theorem low200 : lowF Tryz.prog [4] Tryz.f200 = some (51, lc200.strip, [.tmp 5]) := by kernel_rfl
theorem fn200 : FnOk Tryz.prog 200 51 lc200 [.tmp 5] := ⟨Tryz.call200, [4], _, Tryz.func200, low200⟩
def lc201 : LCode :=
  (.seq (.region [⟨some 4, .mv (.const (.bool false)), none⟩]) (.seq (.region [⟨some 5, .mv (.tmp 0), none⟩, ⟨some 6, .mv (.tmp 1), none⟩, ⟨some 7, .call (.func 258) [(.tmp 5),
    (.tmp 6)], none⟩, ⟨some 8, .bin .geq (.tmp 7) (.const (.int .i64 0)), none⟩, ⟨some 4, .mv (.tmp 8), none⟩]) .ret))
theorem low201 : lowF Tryz.prog [] Tryz.f201 = some (9, lc201.strip, [.tmp 4]) := by kernel_rfl
theorem fn201 : FnOk Tryz.prog 201 9 lc201 [.tmp 4] := ⟨Tryz.call201, [], _, Tryz.func201, low201⟩
def lc202 : LCode :=
  (.seq (.region [⟨some 2, .boxS (.tmp 0), none⟩, ⟨some 3, .mv (.const (.bool false)), none⟩]) (.seq (.region [⟨some 4, .fld 0 (.tmp 2), none⟩, ⟨some 5, .load false 1 (.tmp 4),
    none⟩, ⟨some 6, .fld 0 (.tmp 1), none⟩, ⟨some 7, .load false 1 (.tmp 6), none⟩, ⟨some 8, .eqS false (.tmp 5) (.tmp 7), none⟩, ⟨some 3, .mv (.tmp 8), none⟩]) .ret))
theorem low202 : lowF Tryz.prog [2] Tryz.f202 = some (9, lc202.strip, [.tmp 3]) := by kernel_rfl
theorem fn202 : FnOk Tryz.prog 202 9 lc202 [.tmp 3] := ⟨Tryz.call202, [2], _, Tryz.func202, low202⟩
def lc203 : LCode :=
  (.seq (.region [⟨some 2, .mv (.const (.bool false)), none⟩]) (.seq (.region [⟨some 3, .mv (.tmp 0), none⟩, ⟨some 4, .call (.func 154) [(.tmp 3)], none⟩, ⟨some 5, .un .not (.tmp
    4), none⟩, ⟨some 2, .mv (.tmp 5), none⟩]) .ret))
theorem low203 : lowF Tryz.prog [] Tryz.f203 = some (6, lc203.strip, [.tmp 2]) := by kernel_rfl
theorem fn203 : FnOk Tryz.prog 203 6 lc203 [.tmp 2] := ⟨Tryz.call203, [], _, Tryz.func203, low203⟩
def lc204 : LCode :=
  (.seq (.region [⟨some 2, .mv (.const (.bool false)), none⟩]) (.seq (.seq (.region [⟨some 6, .mv (.tmp 0), none⟩, ⟨some 7, .lenS (.tmp 6), none⟩, ⟨some 8, .mv (.const (.int .i64
    0)), none⟩]) (.block 0 (.loop (.seq (.region [⟨some 9, .bin .lss (.tmp 8) (.tmp 7), none⟩]) (.seq (.cond (.tmp 9) .skip (.exit 0)) (.seq (.block 1 (.seq (.region [⟨some 10, .mv
    (.tmp 8), none⟩, ⟨some 3, .mv (.tmp 10), none⟩]) (.seq (.region [⟨some 11, .mv (.tmp 0), none⟩, ⟨some 12, .mv (.tmp 3), none⟩, ⟨some 13, .indexS (.tmp 11) (.tmp 12), none⟩,
    ⟨some 4, .mv (.tmp 13), none⟩]) (.seq (.region [⟨some 14, .mv (.tmp 4), none⟩, ⟨some 15, .bin .geq (.tmp 14) (.const (.int .u8 97)), none⟩, ⟨some 16, .mv (.tmp 15), none⟩, ⟨some
    17, .mv (.tmp 4), some (16, true)⟩, ⟨some 18, .bin .leq (.tmp 17) (.const (.int .u8 122)), some (16, true)⟩, ⟨some 19, .pick (.tmp 16) (.tmp 18) (.const (.bool false)), none⟩,
    ⟨some 20, .mv (.tmp 19), none⟩, ⟨some 21, .mv (.tmp 4), some (20, false)⟩, ⟨some 22, .bin .geq (.tmp 21) (.const (.int .u8 65)), some (20, false)⟩, ⟨some 23, .mv (.tmp 22), some
    (20, false)⟩, ⟨some 24, .mv (.tmp 4), some (23, true)⟩, ⟨some 25, .bin .leq (.tmp 24) (.const (.int .u8 90)), some (23, true)⟩, ⟨some 26, .pick (.tmp 23) (.tmp 25) (.const
    (.bool false)), some (20, false)⟩, ⟨some 27, .pick (.tmp 20) (.const (.bool true)) (.tmp 26), none⟩, ⟨some 5, .mv (.tmp 27), none⟩]) (.seq (.region [⟨some 28, .mv (.tmp 5),
    none⟩, ⟨some 29, .un .not (.tmp 28), none⟩, ⟨some 30, .mv (.tmp 29), none⟩, ⟨some 31, .mv (.tmp 3), some (30, true)⟩, ⟨some 32, .bin .eql (.tmp 31) (.const (.int .i64 0)), some
    (30, true)⟩, ⟨some 33, .mv (.tmp 32), some (30, true)⟩, ⟨some 34, .mv (.tmp 4), some (33, false)⟩, ⟨some 35, .bin .neq (.tmp 34) (.const (.int .u8 45)), some (33, false)⟩, ⟨some
    36, .mv (.tmp 35), some (33, false)⟩, ⟨some 37, .mv (.tmp 4), some (36, true)⟩, ⟨some 38, .bin .lss (.tmp 37) (.const (.int .u8 48)), some (36, true)⟩, ⟨some 39, .mv (.tmp 38),
    some (36, true)⟩, ⟨some 40, .mv (.tmp 4), some (39, false)⟩, ⟨some 41, .bin .gtr (.tmp 40) (.const (.int .u8 57)), some (39, false)⟩, ⟨some 42, .pick (.tmp 39) (.const (.bool
    true)) (.tmp 41), some (36, true)⟩, ⟨some 43, .pick (.tmp 36) (.tmp 42) (.const (.bool false)), some (33, false)⟩, ⟨some 44, .pick (.tmp 33) (.const (.bool true)) (.tmp 43),
    some (30, true)⟩, ⟨some 45, .pick (.tmp 30) (.tmp 44) (.const (.bool false)), none⟩]) (.cond (.tmp 45) (.seq (.region [⟨some 2, .mv (.const (.bool false)), none⟩]) .ret)
    .skip)))))) (.region [⟨some 46, .bin .add (.tmp 8) (.const (.int .i64 1)), none⟩, ⟨some 8, .mv (.tmp 46), none⟩]))))))) (.seq (.region [⟨some 47, .mv (.tmp 0), none⟩, ⟨some 48,
    .lenS (.tmp 47), none⟩, ⟨some 49, .call (.func 168) [(.tmp 48), (.const (.int .i64 1)), (.const (.int .i64 12))], none⟩, ⟨some 2, .mv (.tmp 49), none⟩]) .ret)))
theorem low204 : lowF Tryz.prog [] Tryz.f204 = some (50, lc204.strip, [.tmp 2]) := by kernel_rfl
theorem fn204 : FnOk Tryz.prog 204 50 lc204 [.tmp 2] := ⟨Tryz.call204, [], _, Tryz.func204, low204⟩
def lc205 : LCode :=
  (.seq (.region [⟨some 1, .boxS (.tmp 0), none⟩, ⟨some 2, .mv (.const (.int .i64 0)), none⟩]) (.seq (.regionD [⟨some 3, .fld 0 (.tmp 1), none⟩, ⟨some 4, .load false 1 (.tmp 3),
    none⟩, ⟨some 5, .call (.func 234) [(.tmp 4)], none⟩, ⟨some 6, .mv (.tmp 5), none⟩, ⟨some 7, .fld 1 (.tmp 1), some (6, true)⟩, ⟨some 8, .load false 1 (.tmp 7), some (6, true)⟩,
    ⟨some 9, .call (.func 234) [(.tmp 8)], some (6, true)⟩, ⟨some 10, .pick (.tmp 6) (.tmp 9) (.const (.bool false)), none⟩, ⟨some 11, .call (.func 152) [(.tmp 10), (.const (.int
    .i64 2))], none⟩, ⟨some 12, .fld 0 (.tmp 1), none⟩, ⟨some 13, .load false 1 (.tmp 12), none⟩, ⟨some 14, .fld 1 (.tmp 1), none⟩, ⟨some 15, .load false 1 (.tmp 14), none⟩, ⟨some
    16, .bin .leq (.tmp 13) (.tmp 15), none⟩, ⟨some 17, .call (.func 152) [(.tmp 16), (.const (.int .i64 9))], none⟩, ⟨some 18, .lit false 34 1 [(.tmp 11), (.tmp 17)], none⟩, ⟨some
    19, .call (.func 151) [(.tmp 18)], none⟩, ⟨some 2, .mv (.tmp 19), none⟩] [0, 1, 3, 7, 15, 31, 63, 127, 255, 0, 512, 0, 2048, 7680, 16383, 32767, 65535, 131071] [0, 1, 2, 3, 4,
    5, 6, 7, 8, 9, 10, 11, 12, 13, 14, 15, 16, 17]) .ret))
theorem low205 : lowF Tryz.prog [1] Tryz.f205 = some (20, lc205.strip, [.tmp 2]) := by kernel_rfl
theorem fn205 : FnOk Tryz.prog 205 20 lc205 [.tmp 2] := ⟨Tryz.call205, [1], _, Tryz.func205, low205⟩
def lc206 : LCode :=
  (.seq (.region [⟨some 4, .mv (.const (.int .i64 0)), none⟩]) (.seq (.region [⟨some 8, .mv (.tmp 0), none⟩, ⟨some 9, .mv (.tmp 1), none⟩, ⟨some 10, .call (.func 259) [(.tmp 8),
    (.tmp 9)], none⟩, ⟨some 7, .mv (.tmp 10), none⟩, ⟨some 11, .ext (.tmp 7) 0, none⟩, ⟨some 12, .ext (.tmp 7) 1, none⟩, ⟨some 5, .mv (.tmp 11), none⟩, ⟨some 6, .mv (.tmp 12),
    none⟩]) (.seq (.region [⟨some 13, .mv (.tmp 6), none⟩, ⟨some 4, .mv (.tmp 13), none⟩]) .ret)))
theorem low206 : lowF Tryz.prog [] Tryz.f206 = some (14, lc206.strip, [.tmp 4]) := by kernel_rfl
theorem fn206 : FnOk Tryz.prog 206 14 lc206 [.tmp 4] := ⟨Tryz.call206, [], _, Tryz.func206, low206⟩
def lc218 : LCode :=
  (.seq (.region [⟨some 2, .box (.tmp 0), none⟩, ⟨some 3, .box (.tmp 1), none⟩, ⟨some 4, .mv (.const .nilFunc), none⟩]) (.seq (.region [⟨some 5, .mkfn 262 [(.tmp 3), (.tmp 2)],
    none⟩, ⟨some 4, .mv (.tmp 5), none⟩]) .ret))
theorem low218 : lowF Tryz.prog [] Tryz.f218 = some (6, lc218.strip, [.tmp 4]) := by kernel_rfl
theorem fn218 : FnOk Tryz.prog 218 6 lc218 [.tmp 4] := ⟨Tryz.call218, [], _, Tryz.func218, low218⟩
def lc219 : LCode :=
  (.seq (.region [⟨some 2, .boxS (.tmp 0), none⟩, ⟨some 3, .boxS (.tmp 1), none⟩, ⟨some 4, .mv (.const (.int .i64 0)), none⟩, ⟨some 5, .mv (.const (.int .i64 0)), none⟩]) (.seq
    (.region [⟨some 9, .load true 8 (.tmp 2), none⟩, ⟨some 10, .call (.func 171) [(.tmp 9)], none⟩, ⟨some 8, .mv (.tmp 10), none⟩, ⟨some 11, .ext (.tmp 8) 0, none⟩, ⟨some 12, .ext
    (.tmp 8) 1, none⟩, ⟨some 6, .mv (.tmp 11), none⟩, ⟨some 7, .mv (.tmp 12), none⟩]) (.seq (.seq (.regionD [⟨some 13, .mv (.tmp 7), none⟩, ⟨some 14, .fld 0 (.tmp 3), none⟩, ⟨some
    15, .load false 1 (.tmp 14), none⟩, ⟨some 16, .fld 2 (.tmp 2), none⟩, ⟨some 17, .load false 1 (.tmp 16), none⟩, ⟨some 18, .len (.tmp 17), none⟩, ⟨some 19, .bin .sub (.tmp 18)
    (.const (.int .i64 1)), none⟩, ⟨some 20, .call (.func 168) [(.tmp 15), (.const (.int .i64 0)), (.tmp 19)], none⟩, ⟨some 21, .call (.func 152) [(.tmp 20), (.const (.int .i64
    6))], none⟩, ⟨some 22, .fld 1 (.tmp 3), none⟩, ⟨some 23, .load false 1 (.tmp 22), none⟩, ⟨some 24, .call (.func 234) [(.tmp 23)], none⟩, ⟨some 25, .mv (.tmp 24), none⟩, ⟨some
    26, .fld 2 (.tmp 3), some (25, true)⟩, ⟨some 27, .load false 1 (.tmp 26), some (25, true)⟩, ⟨some 28, .call (.func 168) [(.tmp 27), (.const (.int .i64 0)), (.const (.int .i64
    100000000))], some (25, true)⟩, ⟨some 29, .pick (.tmp 25) (.tmp 28) (.const (.bool false)), none⟩, ⟨some 30, .mv (.tmp 29), none⟩, ⟨some 31, .fld 3 (.tmp 3), some (30, true)⟩,
    ⟨some 32, .load false 1 (.tmp 31), some (30, true)⟩, ⟨some 33, .call (.func 154) [(.tmp 32)], some (30, true)⟩, ⟨some 34, .pick (.tmp 30) (.tmp 33) (.const (.bool false)),
    none⟩, ⟨some 35, .call (.func 152) [(.tmp 34), (.const (.int .i64 2))], none⟩, ⟨some 36, .lit false 34 1 [(.tmp 13), (.tmp 21), (.tmp 35)], none⟩, ⟨some 37, .call (.func 151)
    [(.tmp 36)], none⟩, ⟨some 7, .mv (.tmp 37), none⟩] [0, 0, 2, 0, 8, 24, 56, 126, 254, 0, 512, 2046, 4094, 8190, 16382, 32766, 65534, 131070, 262142, 524286, 1048574, 2097150,
    4194302, 8388607, 16777215, 33554431] [0, 1, 2, 3, 4, 5, 6, 7, 8, 9, 10, 11, 12, 13, 14, 15, 16, 17, 18, 19, 20, 21, 22, 23, 24, 25]) (.seq (.region [⟨some 38, .mv (.tmp 7),
    none⟩, ⟨some 39, .bin .neq (.tmp 38) (.const (.int .i64 0)), none⟩]) (.cond (.tmp 39) (.seq (.region [⟨some 40, .mv (.tmp 7), none⟩, ⟨some 4, .mv (.const (.int .i64 0)), none⟩,
    ⟨some 5, .mv (.tmp 40), none⟩]) .ret) .skip))) (.seq (.region [⟨some 41, .fld 4 (.tmp 3), none⟩, ⟨some 42, .load false 1 (.tmp 41), none⟩, ⟨some 43, .fld 0 (.tmp 2), none⟩,
    ⟨some 44, .load false 1 (.tmp 43), none⟩, ⟨some 45, .len (.tmp 44), none⟩, ⟨some 46, .call (.func 259) [(.tmp 42), (.tmp 45)], none⟩, ⟨some 47, .ext (.tmp 46) 0, none⟩, ⟨some
    48, .ext (.tmp 46) 1, none⟩, ⟨some 4, .mv (.tmp 47), none⟩, ⟨some 5, .mv (.tmp 48), none⟩]) .ret))))
theorem low219 : lowF Tryz.prog [2, 3] Tryz.f219 = some (49, lc219.strip, [.tmp 4, .tmp 5]) := by kernel_rfl
theorem fn219 : FnOk Tryz.prog 219 49 lc219 [.tmp 4, .tmp 5] := ⟨Tryz.call219, [2, 3], _, Tryz.func219, low219⟩
def lc220 : LCode :=
  (.seq (.region [⟨some 4, .mv (.const (.int .i64 0)), none⟩, ⟨some 5, .mv (.const (.int .i64 0)), none⟩]) (.seq (.seq (.region [⟨some 9, .mv (.tmp 0), none⟩, ⟨some 10, .len (.tmp
    9), none⟩, ⟨some 11, .mv (.const (.int .i64 0)), none⟩]) (.block 0 (.loop (.seq (.region [⟨some 12, .bin .lss (.tmp 11) (.tmp 10), none⟩]) (.seq (.cond (.tmp 12) .skip (.exit
    0)) (.seq (.block 1 (.seq (.region [⟨some 13, .mv (.tmp 11), none⟩, ⟨some 14, .idx 1 (.tmp 9) (.tmp 11), none⟩, ⟨some 15, .load false 1 (.tmp 14), none⟩, ⟨some 6, .mv (.tmp 13),
    none⟩, ⟨some 7, .mv (.tmp 15), none⟩]) (.seq (.region [⟨some 16, .mv (.tmp 1), none⟩, ⟨some 17, .mv (.tmp 6), none⟩, ⟨some 18, .mv (.tmp 7), none⟩, ⟨some 19, .call (.tmp 16)
    [(.tmp 17), (.tmp 18)], none⟩, ⟨some 8, .mv (.tmp 19), none⟩]) (.seq (.region [⟨some 20, .mv (.tmp 8), none⟩, ⟨some 21, .bin .neq (.tmp 20) (.const (.int .i64 0)), none⟩])
    (.cond (.tmp 21) (.seq (.region [⟨some 22, .mv (.tmp 6), none⟩, ⟨some 23, .mv (.tmp 8), none⟩, ⟨some 4, .mv (.tmp 22), none⟩, ⟨some 5, .mv (.tmp 23), none⟩]) .ret) .skip)))))
    (.region [⟨some 24, .bin .add (.tmp 11) (.const (.int .i64 1)), none⟩, ⟨some 11, .mv (.tmp 24), none⟩]))))))) (.seq (.region [⟨some 4, .mv (.const (.int .i64 0)), none⟩, ⟨some
    5, .mv (.const (.int .i64 0)), none⟩]) .ret)))
theorem low220 : lowF Tryz.prog [] Tryz.f220 = some (25, lc220.strip, [.tmp 4, .tmp 5]) := by kernel_rfl
theorem fn220 : FnOk Tryz.prog 220 25 lc220 [.tmp 4, .tmp 5] := ⟨Tryz.call220, [], _, Tryz.func220, low220⟩
def lc222 : LCode :=
  (.seq (.region [⟨some 4, .mv (.const (.int .i64 0)), none⟩]) (.seq (.seq (.region [⟨some 6, .mv (.tmp 0), none⟩, ⟨some 7, .len (.tmp 6), none⟩, ⟨some 8, .mv (.const (.int .i64
    0)), none⟩]) (.block 0 (.loop (.seq (.region [⟨some 9, .bin .lss (.tmp 8) (.tmp 7), none⟩]) (.seq (.cond (.tmp 9) .skip (.exit 0)) (.seq (.block 1 (.seq (.region [⟨some 10, .mv
    (.tmp 8), none⟩, ⟨some 5, .mv (.tmp 10), none⟩]) (.seq (.region [⟨some 11, .mv (.tmp 1), none⟩, ⟨some 12, .mv (.tmp 0), none⟩, ⟨some 13, .mv (.tmp 5), none⟩, ⟨some 14, .idx 1
    (.tmp 12) (.tmp 13), none⟩, ⟨some 15, .load false 1 (.tmp 14), none⟩, ⟨some 16, .call (.tmp 11) [(.tmp 15)], none⟩]) (.cond (.tmp 16) (.seq (.region [⟨some 17, .mv (.tmp 5),
    none⟩, ⟨some 4, .mv (.tmp 17), none⟩]) .ret) .skip)))) (.region [⟨some 18, .bin .add (.tmp 8) (.const (.int .i64 1)), none⟩, ⟨some 8, .mv (.tmp 18), none⟩]))))))) (.seq (.region
    [⟨some 4, .mv (.const (.int .i64 (-1))), none⟩]) .ret)))
theorem low222 : lowF Tryz.prog [] Tryz.f222 = some (19, lc222.strip, [.tmp 4]) := by kernel_rfl
theorem fn222 : FnOk Tryz.prog 222 19 lc222 [.tmp 4] := ⟨Tryz.call222, [], _, Tryz.func222, low222⟩
def lc224 : LCode :=
  (.seq (.region [⟨some 3, .mv (.const (.bool false)), none⟩]) (.seq (.region [⟨some 4, .load false 1 (.tmp 1), none⟩, ⟨some 5, .mv (.tmp 0), none⟩, ⟨some 6, .call (.func 186)
    [(.tmp 4), (.tmp 5)], none⟩, ⟨some 3, .mv (.tmp 6), none⟩]) .ret))
theorem low224 : lowF Tryz.prog [] Tryz.f224 = some (7, lc224.strip, [.tmp 3]) := by kernel_rfl
theorem fn224 : FnOk Tryz.prog 224 7 lc224 [.tmp 3] := ⟨Tryz.call224, [], _, Tryz.func224, low224⟩
def lc226 : LCode :=
  (.seq (.region [⟨some 2, .mv (.const (.bool false)), none⟩]) (.seq (.region [⟨some 3, .mv (.tmp 0), none⟩, ⟨some 4, .mv (.tmp 0), none⟩, ⟨some 5, .bin .neq (.tmp 3) (.tmp 4),
    none⟩, ⟨some 2, .mv (.tmp 5), none⟩]) .ret))
theorem low226 : lowF Tryz.prog [] Tryz.f226 = some (6, lc226.strip, [.tmp 2]) := by kernel_rfl
theorem fn226 : FnOk Tryz.prog 226 6 lc226 [.tmp 2] := ⟨Tryz.call226, [], _, Tryz.func226, low226⟩
def lc227 : LCode :=
  (.seq (.region [⟨some 3, .boxS (.tmp 0), none⟩, ⟨some 6, .mv (.const (.int .i64 0)), none⟩]) (.seq (.seq (.region [⟨some 9, .mv (.tmp 1), none⟩, ⟨some 10, .bin .eql (.tmp 9)
    (.const (.int .i64 0)), none⟩]) (.cond (.tmp 10) (.seq (.region [⟨some 6, .mv (.const (.int .i64 0)), none⟩]) .ret) .skip)) (.seq (.seq (.region [⟨some 11, .fld 0 (.tmp 3),
    none⟩, ⟨some 12, .fld 3 (.tmp 11), none⟩, ⟨some 13, .load false 1 (.tmp 12), none⟩, ⟨some 14, .len (.tmp 13), none⟩, ⟨some 15, .mv (.const (.int .i64 0)), none⟩]) (.block 0
    (.loop (.seq (.region [⟨some 16, .bin .lss (.tmp 15) (.tmp 14), none⟩]) (.seq (.cond (.tmp 16) .skip (.exit 0)) (.seq (.block 1 (.seq (.region [⟨some 17, .idx 3 (.tmp 13) (.tmp
    15), none⟩, ⟨some 18, .load true 3 (.tmp 17), none⟩, ⟨some 8, .alloc [(.int .i64 0), (.int .i64 0), (.int .i64 0)], none⟩, ⟨none, .store 3 (.tmp 8) (.tmp 18), none⟩]) (.seq
    (.region [⟨some 19, .mv (.tmp 2), none⟩, ⟨some 20, .fld 0 (.tmp 8), none⟩, ⟨some 21, .fld 0 (.tmp 20), none⟩, ⟨some 22, .load false 1 (.tmp 21), none⟩, ⟨some 23, .fld 0 (.tmp
    8), none⟩, ⟨some 24, .fld 1 (.tmp 23), none⟩, ⟨some 25, .load false 1 (.tmp 24), none⟩, ⟨some 26, .call (.func 168) [(.tmp 19), (.tmp 22), (.tmp 25)], none⟩]) (.cond (.tmp 26)
    (.seq (.region [⟨some 27, .mv (.tmp 1), none⟩, ⟨some 28, .fld 2 (.tmp 8), none⟩, ⟨some 29, .load false 1 (.tmp 28), none⟩, ⟨some 30, .bin .add (.tmp 27) (.tmp 29), none⟩, ⟨some
    6, .mv (.tmp 30), none⟩]) .ret) .skip)))) (.region [⟨some 31, .bin .add (.tmp 15) (.const (.int .i64 1)), none⟩, ⟨some 15, .mv (.tmp 31), none⟩]))))))) (.seq (.region [⟨some 32,
    .mv (.tmp 1), none⟩, ⟨some 6, .mv (.tmp 32), none⟩]) .ret))))
theorem low227 : lowF Tryz.prog [3] Tryz.f227 = some (33, lc227.strip, [.tmp 6]) := by kernel_rfl
theorem fn227 : FnOk Tryz.prog 227 33 lc227 [.tmp 6] := ⟨Tryz.call227, [3], _, Tryz.func227, low227⟩
def lc229 : LCode :=
  (.seq (.region [⟨some 6, .mv (.const (.int .i64 0)), none⟩]) (.seq (.region [⟨some 9, .fld 1 (.tmp 2), none⟩, ⟨some 10, .load false 1 (.tmp 9), none⟩, ⟨some 11, .mv (.tmp 0),
    none⟩, ⟨some 12, .idx 1 (.tmp 10) (.tmp 11), none⟩, ⟨some 13, .load false 1 (.tmp 12), none⟩, ⟨some 7, .mv (.tmp 13), none⟩]) (.seq (.region [⟨some 14, .mv (.tmp 7), none⟩,
    ⟨some 15, .call (.func 158) [(.tmp 14), (.func 230)], none⟩, ⟨some 8, .mv (.tmp 15), none⟩]) (.seq (.regionD [⟨some 16, .mv (.tmp 1), none⟩, ⟨some 17, .call (.func 154) [(.tmp
    16)], none⟩, ⟨some 18, .call (.func 152) [(.tmp 17), (.const (.int .i64 2))], none⟩, ⟨some 19, .mv (.tmp 7), none⟩, ⟨some 20, .len (.tmp 19), none⟩, ⟨some 21, .load false 1
    (.tmp 3), none⟩, ⟨some 22, .bin .eql (.tmp 20) (.tmp 21), none⟩, ⟨some 23, .call (.func 152) [(.tmp 22), (.const (.int .i64 10))], none⟩, ⟨some 24, .mv (.tmp 8), none⟩, ⟨some
    25, .un .not (.tmp 24), none⟩, ⟨some 26, .mv (.tmp 25), none⟩, ⟨some 27, .mv (.tmp 7), some (26, true)⟩, ⟨some 28, .len (.tmp 27), some (26, true)⟩, ⟨some 29, .mv (.tmp 0), some
    (26, true)⟩, ⟨some 30, .bin .leq (.tmp 28) (.tmp 29), some (26, true)⟩, ⟨some 31, .mv (.tmp 30), some (26, true)⟩, ⟨some 32, .mv (.tmp 7), some (31, false)⟩, ⟨some 33, .mv (.tmp
    0), some (31, false)⟩, ⟨some 34, .idx 1 (.tmp 32) (.tmp 33), some (31, false)⟩, ⟨some 35, .load false 1 (.tmp 34), some (31, false)⟩, ⟨some 36, .bin .eql (.tmp 35) (.const (.int
    .i64 0)), some (31, false)⟩, ⟨some 37, .pick (.tmp 31) (.const (.bool true)) (.tmp 36), some (26, true)⟩, ⟨some 38, .pick (.tmp 26) (.tmp 37) (.const (.bool false)), none⟩,
    ⟨some 39, .call (.func 152) [(.tmp 38), (.const (.int .i64 2))], none⟩, ⟨some 40, .lit false 34 1 [(.tmp 18), (.tmp 23), (.tmp 39)], none⟩, ⟨some 41, .call (.func 151) [(.tmp
    40)], none⟩, ⟨some 6, .mv (.tmp 41), none⟩] [0, 1, 3, 0, 8, 0, 56, 127, 0, 256, 1023, 2047, 4095, 2047, 16383, 32767, 65535, 65535, 262143, 524287, 1048575, 2097151, 4194303,
    8388607, 16777215, 33554431, 67108863] [0, 1, 2, 3, 4, 5, 6, 7, 8, 9, 10, 11, 12, 13, 14, 15, 16, 17, 18, 19, 20, 21, 22, 23, 24, 25, 26]) .ret))))
theorem low229 : lowF Tryz.prog [] Tryz.f229 = some (42, lc229.strip, [.tmp 6]) := by kernel_rfl
theorem fn229 : FnOk Tryz.prog 229 42 lc229 [.tmp 6] := ⟨Tryz.call229, [], _, Tryz.func229, low229⟩
def lc230 : LCode :=
  (.seq (.region [⟨some 2, .mv (.const (.bool false)), none⟩]) (.seq (.region [⟨some 3, .mv (.tmp 0), none⟩, ⟨some 4, .call (.func 154) [(.tmp 3)], none⟩, ⟨some 5, .un .not (.tmp
    4), none⟩, ⟨some 2, .mv (.tmp 5), none⟩]) .ret))
theorem low230 : lowF Tryz.prog [] Tryz.f230 = some (6, lc230.strip, [.tmp 2]) := by kernel_rfl
theorem fn230 : FnOk Tryz.prog 230 6 lc230 [.tmp 2] := ⟨Tryz.call230, [], _, Tryz.func230, low230⟩
def lc231 : LCode :=
  (.seq (.region [⟨some 4, .boxS (.tmp 1), none⟩, ⟨some 5, .mv (.const (.int .i64 0)), none⟩]) (.seq (.region [⟨some 6, .fld 1 (.tmp 4), none⟩, ⟨some 7, .load false 1 (.tmp 6),
    none⟩, ⟨some 8, .load false 1 (.tmp 2), none⟩, ⟨some 9, .bin .lss (.tmp 7) (.tmp 8), none⟩, ⟨some 10, .call (.func 152) [(.tmp 9), (.const (.int .i64 6))], none⟩, ⟨some 5, .mv
    (.tmp 10), none⟩]) .ret))
theorem low231 : lowF Tryz.prog [4] Tryz.f231 = some (11, lc231.strip, [.tmp 5]) := by kernel_rfl
theorem fn231 : FnOk Tryz.prog 231 11 lc231 [.tmp 5] := ⟨Tryz.call231, [4], _, Tryz.func231, low231⟩
def lc232 : LCode :=
  (.seq (.region [⟨some 4, .mv (.const (.int .i64 0)), none⟩, ⟨some 5, .mv (.const (.int .i64 0)), none⟩]) (.seq (.seq (.region [⟨some 9, .mv (.tmp 0), none⟩, ⟨some 10, .len (.tmp
    9), none⟩, ⟨some 11, .mv (.const (.int .i64 0)), none⟩]) (.block 0 (.loop (.seq (.region [⟨some 12, .bin .lss (.tmp 11) (.tmp 10), none⟩]) (.seq (.cond (.tmp 12) .skip (.exit
    0)) (.seq (.block 1 (.seq (.region [⟨some 13, .mv (.tmp 11), none⟩, ⟨some 14, .idx 3 (.tmp 9) (.tmp 11), none⟩, ⟨some 15, .load true 3 (.tmp 14), none⟩, ⟨some 7, .alloc [(.int
    .i64 0), (.int .i64 0), (.int .i64 0)], none⟩, ⟨some 6, .mv (.tmp 13), none⟩, ⟨none, .store 3 (.tmp 7) (.tmp 15), none⟩]) (.seq (.region [⟨some 16, .mv (.tmp 1), none⟩, ⟨some
    17, .mv (.tmp 6), none⟩, ⟨some 18, .load true 3 (.tmp 7), none⟩, ⟨some 19, .call (.tmp 16) [(.tmp 17), (.tmp 18)], none⟩, ⟨some 8, .mv (.tmp 19), none⟩]) (.seq (.region [⟨some
    20, .mv (.tmp 8), none⟩, ⟨some 21, .bin .neq (.tmp 20) (.const (.int .i64 0)), none⟩]) (.cond (.tmp 21) (.seq (.region [⟨some 22, .mv (.tmp 6), none⟩, ⟨some 23, .mv (.tmp 8),
    none⟩, ⟨some 4, .mv (.tmp 22), none⟩, ⟨some 5, .mv (.tmp 23), none⟩]) .ret) .skip))))) (.region [⟨some 24, .bin .add (.tmp 11) (.const (.int .i64 1)), none⟩, ⟨some 11, .mv (.tmp
    24), none⟩]))))))) (.seq (.region [⟨some 4, .mv (.const (.int .i64 0)), none⟩, ⟨some 5, .mv (.const (.int .i64 0)), none⟩]) .ret)))
theorem low232 : lowF Tryz.prog [] Tryz.f232 = some (25, lc232.strip, [.tmp 4, .tmp 5]) := by kernel_rfl
theorem fn232 : FnOk Tryz.prog 232 25 lc232 [.tmp 4, .tmp 5] := ⟨Tryz.call232, [], _, Tryz.func232, low232⟩
def lc233 : LCode :=
  (.seq (.region [⟨some 4, .boxS (.tmp 1), none⟩, ⟨some 5, .mv (.const (.int .i64 0)), none⟩]) (.seq (.region [⟨some 8, .fld 0 (.tmp 4), none⟩, ⟨some 9, .load true 2 (.tmp 8),
    none⟩, ⟨some 6, .alloc [(.int .i64 0), (.int .i64 0)], none⟩, ⟨none, .store 2 (.tmp 6) (.tmp 9), none⟩]) (.seq (.regionD [⟨some 10, .fld 0 (.tmp 6), none⟩, ⟨some 11, .load false
    1 (.tmp 10), none⟩, ⟨some 12, .call (.func 234) [(.tmp 11)], none⟩, ⟨some 13, .mv (.tmp 12), none⟩, ⟨some 14, .fld 1 (.tmp 6), some (13, true)⟩, ⟨some 15, .load false 1 (.tmp
    14), some (13, true)⟩, ⟨some 16, .call (.func 234) [(.tmp 15)], some (13, true)⟩, ⟨some 17, .pick (.tmp 13) (.tmp 16) (.const (.bool false)), none⟩, ⟨some 18, .mv (.tmp 17),
    none⟩, ⟨some 19, .fld 2 (.tmp 4), some (18, true)⟩, ⟨some 20, .load false 1 (.tmp 19), some (18, true)⟩, ⟨some 21, .call (.func 154) [(.tmp 20)], some (18, true)⟩, ⟨some 22,
    .pick (.tmp 18) (.tmp 21) (.const (.bool false)), none⟩, ⟨some 23, .call (.func 152) [(.tmp 22), (.const (.int .i64 2))], none⟩, ⟨some 24, .fld 0 (.tmp 6), none⟩, ⟨some 25,
    .load false 1 (.tmp 24), none⟩, ⟨some 26, .fld 1 (.tmp 6), none⟩, ⟨some 27, .load false 1 (.tmp 26), none⟩, ⟨some 28, .bin .leq (.tmp 25) (.tmp 27), none⟩, ⟨some 29, .mv (.tmp
    28), none⟩, ⟨some 30, .fld 0 (.tmp 6), some (29, true)⟩, ⟨some 31, .load false 1 (.tmp 30), some (29, true)⟩, ⟨some 32, .load false 1 (.tmp 2), some (29, true)⟩, ⟨some 33, .bin
    .gtr (.tmp 31) (.tmp 32), some (29, true)⟩, ⟨some 34, .pick (.tmp 29) (.tmp 33) (.const (.bool false)), none⟩, ⟨some 35, .call (.func 152) [(.tmp 34), (.const (.int .i64 9))],
    none⟩, ⟨some 36, .lit false 34 1 [(.tmp 23), (.tmp 35)], none⟩, ⟨some 37, .call (.func 151) [(.tmp 36)], none⟩, ⟨some 7, .mv (.tmp 37), none⟩] [0, 1, 3, 7, 15, 31, 63, 127, 255,
    511, 1023, 2047, 4095, 8191, 0, 16384, 0, 65536, 245760, 524287, 1048575, 2097151, 1048575, 8388607, 16777215, 33554431, 67108863, 134217727, 268435455] [0, 1, 2, 3, 4, 5, 6, 7,
    8, 9, 10, 11, 12, 13, 14, 15, 16, 17, 18, 19, 20, 21, 22, 23, 24, 25, 26, 27, 28]) (.seq (.region [⟨some 38, .fld 1 (.tmp 6), none⟩, ⟨some 39, .load false 1 (.tmp 38), none⟩,
    ⟨none, .store 1 (.tmp 2) (.tmp 39), none⟩]) (.seq (.region [⟨some 40, .mv (.tmp 7), none⟩, ⟨some 5, .mv (.tmp 40), none⟩]) .ret)))))
theorem low233 : lowF Tryz.prog [4] Tryz.f233 = some (41, lc233.strip, [.tmp 5]) := by kernel_rfl
theorem fn233 : FnOk Tryz.prog 233 41 lc233 [.tmp 5] := ⟨Tryz.call233, [4], _, Tryz.func233, low233⟩
def lc234 : LCode :=
  (.seq (.region [⟨some 2, .mv (.const (.bool false)), none⟩]) (.seq (.region [⟨some 3, .mv (.tmp 0), none⟩, ⟨some 4, .call (.func 168) [(.tmp 3), (.const (.int .i64 0)), (.const
    (.int .i64 100000))], none⟩, ⟨some 2, .mv (.tmp 4), none⟩]) .ret))
theorem low234 : lowF Tryz.prog [] Tryz.f234 = some (5, lc234.strip, [.tmp 2]) := by kernel_rfl
theorem fn234 : FnOk Tryz.prog 234 5 lc234 [.tmp 2] := ⟨Tryz.call234, [], _, Tryz.func234, low234⟩
def lc254 : LCode :=
  (.seq (.region [⟨some 3, .mv (.const (.bool false)), none⟩]) (.seq (.region [⟨some 4, .load true 13 (.tmp 1), none⟩, ⟨some 5, .mv (.tmp 0), none⟩, ⟨some 6, .call (.func 144)
    [(.tmp 4), (.tmp 5)], none⟩, ⟨some 7, .un .not (.tmp 6), none⟩, ⟨some 3, .mv (.tmp 7), none⟩]) .ret))
theorem low254 : lowF Tryz.prog [] Tryz.f254 = some (8, lc254.strip, [.tmp 3]) := by kernel_rfl
theorem fn254 : FnOk Tryz.prog 254 8 lc254 [.tmp 3] := ⟨Tryz.call254, [], _, Tryz.func254, low254⟩
def lc255 : LCode :=
  (.seq (.seq (.region [⟨some 9, .load false 1 (.tmp 1), none⟩, ⟨some 10, .lenS (.tmp 9), none⟩, ⟨some 11, .bin .eql (.tmp 10) (.const (.int .i64 0)), none⟩]) (.cond (.tmp 11) (.seq
    (.block 0 (.loop (.seq (.seq (.region [⟨some 12, .load false 1 (.tmp 2), none⟩, ⟨some 13, .lenS (.tmp 12), none⟩, ⟨some 14, .bin .gtr (.tmp 13) (.const (.int .i64 0)), none⟩])
    (.cond (.tmp 14) .skip (.exit 0))) (.block 1 (.seq (.region [⟨some 16, .load false 1 (.tmp 2), none⟩, ⟨some 17, .call (.func 256) [(.tmp 16)], none⟩, ⟨some 15, .mv (.tmp 17),
    none⟩, ⟨some 18, .ext (.tmp 15) 0, none⟩, ⟨some 19, .ext (.tmp 15) 1, none⟩, ⟨some 5, .mv (.tmp 18), none⟩, ⟨some 6, .mv (.tmp 19), none⟩]) (.seq (.seq (.region [⟨some 20, .mv
    (.tmp 0), none⟩, ⟨some 21, .load false 1 (.tmp 2), none⟩, ⟨some 22, .mv (.tmp 6), none⟩, ⟨some 23, .slcS (.tmp 21) none (some (.tmp 22)), none⟩, ⟨some 24, .call (.tmp 20) [(.tmp
    23)], none⟩, ⟨some 25, .un .not (.tmp 24), none⟩]) (.cond (.tmp 25) .ret .skip)) (.region [⟨some 26, .load false 1 (.tmp 2), none⟩, ⟨some 27, .mv (.tmp 6), none⟩, ⟨some 28,
    .slcS (.tmp 26) (some (.tmp 27)) none, none⟩, ⟨none, .store 1 (.tmp 2) (.tmp 28), none⟩]))))))) .ret) .skip)) (.seq (.block 2 (.loop (.block 3 (.seq (.region [⟨some 29, .load
    false 1 (.tmp 2), none⟩, ⟨some 30, .load false 1 (.tmp 1), none⟩, ⟨some 31, .call (.func 249) [(.tmp 29), (.tmp 30)], none⟩, ⟨some 7, .mv (.tmp 31), none⟩]) (.seq (.seq (.region
    [⟨some 32, .mv (.tmp 7), none⟩, ⟨some 33, .bin .lss (.tmp 32) (.const (.int .i64 0)), none⟩]) (.cond (.tmp 33) (.exit 2) .skip)) (.seq (.region [⟨some 34, .load false 1 (.tmp
    2), none⟩, ⟨some 35, .mv (.tmp 7), none⟩, ⟨some 36, .load false 1 (.tmp 3), none⟩, ⟨some 37, .bin .add (.tmp 35) (.tmp 36), none⟩, ⟨some 38, .slcS (.tmp 34) none (some (.tmp
    37)), none⟩, ⟨some 8, .mv (.tmp 38), none⟩]) (.seq (.seq (.region [⟨some 39, .mv (.tmp 0), none⟩, ⟨some 40, .mv (.tmp 8), none⟩, ⟨some 41, .call (.tmp 39) [(.tmp 40)], none⟩,
    ⟨some 42, .un .not (.tmp 41), none⟩]) (.cond (.tmp 42) .ret .skip)) (.region [⟨some 43, .load false 1 (.tmp 2), none⟩, ⟨some 44, .mv (.tmp 7), none⟩, ⟨some 45, .load false 1
    (.tmp 1), none⟩, ⟨some 46, .lenS (.tmp 45), none⟩, ⟨some 47, .bin .add (.tmp 44) (.tmp 46), none⟩, ⟨some 48, .slcS (.tmp 43) (some (.tmp 47)) none, none⟩, ⟨none, .store 1 (.tmp
    2) (.tmp 48), none⟩])))))))) (.region [⟨some 49, .mv (.tmp 0), none⟩, ⟨some 50, .load false 1 (.tmp 2), none⟩, ⟨some 51, .call (.tmp 49) [(.tmp 50)], none⟩])))
theorem low255 : lowF Tryz.prog [] Tryz.f255 = some (52, lc255.strip, []) := by kernel_rfl
theorem fn255 : FnOk Tryz.prog 255 52 lc255 [] := ⟨Tryz.call255, [], _, Tryz.func255, low255⟩
def lc258 : LCode :=
  (.seq (.region [⟨some 4, .mv (.const (.int .i64 0)), none⟩]) (.seq (.seq (.region [⟨some 6, .mv (.tmp 0), none⟩, ⟨some 7, .len (.tmp 6), none⟩, ⟨some 8, .mv (.const (.int .i64
    0)), none⟩]) (.block 0 (.loop (.seq (.region [⟨some 9, .bin .lss (.tmp 8) (.tmp 7), none⟩]) (.seq (.cond (.tmp 9) .skip (.exit 0)) (.seq (.block 1 (.seq (.region [⟨some 10, .mv
    (.tmp 8), none⟩, ⟨some 5, .mv (.tmp 10), none⟩]) (.seq (.region [⟨some 11, .mv (.tmp 1), none⟩, ⟨some 12, .mv (.tmp 0), none⟩, ⟨some 13, .mv (.tmp 5), none⟩, ⟨some 14, .idx 9
    (.tmp 12) (.tmp 13), none⟩, ⟨some 15, .load true 9 (.tmp 14), none⟩, ⟨some 16, .call (.tmp 11) [(.tmp 15)], none⟩]) (.cond (.tmp 16) (.seq (.region [⟨some 17, .mv (.tmp 5),
    none⟩, ⟨some 4, .mv (.tmp 17), none⟩]) .ret) .skip)))) (.region [⟨some 18, .bin .add (.tmp 8) (.const (.int .i64 1)), none⟩, ⟨some 8, .mv (.tmp 18), none⟩]))))))) (.seq (.region
    [⟨some 4, .mv (.const (.int .i64 (-1))), none⟩]) .ret)))
theorem low258 : lowF Tryz.prog [] Tryz.f258 = some (19, lc258.strip, [.tmp 4]) := by kernel_rfl
theorem fn258 : FnOk Tryz.prog 258 19 lc258 [.tmp 4] := ⟨Tryz.call258, [], _, Tryz.func258, low258⟩
def lc259 : LCode :=
  (.seq (.region [⟨some 3, .box (.tmp 1), none⟩, ⟨some 4, .mv (.const (.int .i64 0)), none⟩, ⟨some 5, .mv (.const (.int .i64 0)), none⟩]) (.seq (.region [⟨some 6, .alloc [(.int .i64
    0)], none⟩, ⟨none, .store 1 (.tmp 6) (.const (.int .i64 (-1))), none⟩]) (.seq (.region [⟨some 7, .mv (.tmp 0), none⟩, ⟨some 8, .mkfn 290 [(.tmp 3), (.tmp 6)], none⟩, ⟨some 9,
    .call (.func 220) [(.tmp 7), (.tmp 8)], none⟩, ⟨some 10, .ext (.tmp 9) 0, none⟩, ⟨some 11, .ext (.tmp 9) 1, none⟩, ⟨some 4, .mv (.tmp 10), none⟩, ⟨some 5, .mv (.tmp 11), none⟩])
    .ret)))
theorem low259 : lowF Tryz.prog [] Tryz.f259 = some (12, lc259.strip, [.tmp 4, .tmp 5]) := by kernel_rfl
theorem fn259 : FnOk Tryz.prog 259 12 lc259 [.tmp 4, .tmp 5] := ⟨Tryz.call259, [], _, Tryz.func259, low259⟩
def lc262 : LCode :=
  (.seq (.region [⟨some 3, .box (.tmp 0), none⟩]) (.seq (.region [⟨some 4, .alloc [.nilFunc], none⟩]) (.seq (.region [⟨some 5, .mkfn 263 [(.tmp 3), (.tmp 1), (.tmp 4)], none⟩,
    ⟨none, .store 1 (.tmp 4) (.tmp 5), none⟩]) (.region [⟨some 6, .load false 1 (.tmp 4), none⟩, ⟨some 7, .load true 13 (.tmp 2), none⟩, ⟨some 8, .call (.tmp 6) [(.tmp 7), (.const
    (.slice none 0 0))], none⟩]))))
theorem low262 : lowF Tryz.prog [] Tryz.f262 = some (9, lc262.strip, []) := by kernel_rfl
theorem fn262 : FnOk Tryz.prog 262 9 lc262 [] := ⟨Tryz.call262, [], _, Tryz.func262, low262⟩
def lc264 : LCode :=
  (.seq (.region [⟨some 2, .mv (.const (.slice none 0 0)), none⟩]) (.seq (.region [⟨some 3, .mv (.tmp 0), none⟩, ⟨some 4, .mv (.tmp 0), none⟩, ⟨some 5, .len (.tmp 4), none⟩, ⟨some
    6, .mv (.tmp 0), none⟩, ⟨some 7, .len (.tmp 6), none⟩, ⟨some 8, .clip 1 (.tmp 3) (.tmp 5) (.tmp 7), none⟩, ⟨some 2, .mv (.tmp 8), none⟩]) .ret))
theorem low264 : lowF Tryz.prog [] Tryz.f264 = some (9, lc264.strip, [.tmp 2]) := by kernel_rfl
theorem fn264 : FnOk Tryz.prog 264 9 lc264 [.tmp 2] := ⟨Tryz.call264, [], _, Tryz.func264, low264⟩
def lc265 : LCode :=
  (.seq (.region [⟨some 4, .mv (.const (.slice none 0 0)), none⟩]) (.seq (.seq (.region [⟨some 5, .mv (.tmp 1), none⟩, ⟨some 6, .bin .lss (.tmp 5) (.const (.int .i64 0)), none⟩])
    (.cond (.tmp 6) (.region [⟨some 7, .bad, none⟩, ⟨none, .bad, none⟩]) .skip)) (.seq (.seq (.region [⟨some 8, .mv (.tmp 1), none⟩, ⟨some 9, .mv (.tmp 0), none⟩, ⟨some 10, .cap
    (.tmp 9), none⟩, ⟨some 11, .mv (.tmp 0), none⟩, ⟨some 12, .len (.tmp 11), none⟩, ⟨some 13, .bin .sub (.tmp 10) (.tmp 12), none⟩, ⟨some 14, .bin .sub (.tmp 8) (.tmp 13), none⟩,
    ⟨some 1, .mv (.tmp 14), none⟩]) (.seq (.region [⟨some 15, .mv (.tmp 1), none⟩, ⟨some 16, .bin .gtr (.tmp 15) (.const (.int .i64 0)), none⟩]) (.cond (.tmp 16) (.region [⟨some 17,
    .mv (.tmp 0), none⟩, ⟨some 18, .mv (.tmp 0), none⟩, ⟨some 19, .cap (.tmp 18), none⟩, ⟨some 20, .slc 1 (.tmp 17) none (some (.tmp 19)), none⟩, ⟨some 21, .mv (.tmp 1), none⟩,
    ⟨some 22, .appendN 3 1 8 [(.int .i64 0)] (.tmp 20) (.tmp 21), none⟩, ⟨some 23, .mv (.tmp 0), none⟩, ⟨some 24, .len (.tmp 23), none⟩, ⟨some 25, .slc 1 (.tmp 22) none (some (.tmp
    24)), none⟩, ⟨some 0, .mv (.tmp 25), none⟩]) .skip))) (.seq (.region [⟨some 26, .mv (.tmp 0), none⟩, ⟨some 4, .mv (.tmp 26), none⟩]) .ret))))
theorem low265 : lowF Tryz.prog [] Tryz.f265 = some (27, lc265.strip, [.tmp 4]) := by kernel_rfl
theorem fn265 : FnOk Tryz.prog 265 27 lc265 [.tmp 4] := ⟨Tryz.call265, [], _, Tryz.func265, low265⟩
def lc266 : LCode :=
  (.seq (.region [⟨some 4, .mv (.const (.int .i64 0)), none⟩, ⟨some 5, .mv (.const (.bool false)), none⟩]) (.seq (.region [⟨some 10, .mv (.tmp 0), none⟩, ⟨some 11, .len (.tmp 10),
    none⟩, ⟨some 6, .mv (.tmp 11), none⟩]) (.seq (.region [⟨some 12, .mv (.tmp 6), none⟩, ⟨some 7, .mv (.const (.int .i64 0)), none⟩, ⟨some 8, .mv (.tmp 12), none⟩]) (.seq (.block 0
    (.loop (.seq (.seq (.region [⟨some 13, .mv (.tmp 7), none⟩, ⟨some 14, .mv (.tmp 8), none⟩, ⟨some 15, .bin .lss (.tmp 13) (.tmp 14), none⟩]) (.cond (.tmp 15) .skip (.exit 0)))
    (.block 1 (.seq (.region [⟨some 16, .mv (.tmp 7), none⟩, ⟨some 17, .mv (.tmp 8), none⟩, ⟨some 18, .bin .add (.tmp 16) (.tmp 17), none⟩, ⟨some 19, .conv .u64 (.tmp 18), none⟩,
    ⟨some 20, .bin .shr (.tmp 19) (.const (.int .u64 1)), none⟩, ⟨some 21, .conv .i64 (.tmp 20), none⟩, ⟨some 9, .mv (.tmp 21), none⟩]) (.seq (.region [⟨some 22, .mv (.tmp 0),
    none⟩, ⟨some 23, .mv (.tmp 9), none⟩, ⟨some 24, .idx 1 (.tmp 22) (.tmp 23), none⟩, ⟨some 25, .load false 1 (.tmp 24), none⟩, ⟨some 26, .mv (.tmp 1), none⟩, ⟨some 27, .call
    (.func 291) [(.tmp 25), (.tmp 26)], none⟩]) (.cond (.tmp 27) (.region [⟨some 28, .mv (.tmp 9), none⟩, ⟨some 29, .bin .add (.tmp 28) (.const (.int .i64 1)), none⟩, ⟨some 7, .mv
    (.tmp 29), none⟩]) (.region [⟨some 30, .mv (.tmp 9), none⟩, ⟨some 8, .mv (.tmp 30), none⟩])))))))) (.seq (.region [⟨some 31, .mv (.tmp 7), none⟩, ⟨some 32, .mv (.tmp 7), none⟩,
    ⟨some 33, .mv (.tmp 6), none⟩, ⟨some 34, .bin .lss (.tmp 32) (.tmp 33), none⟩, ⟨some 35, .mv (.tmp 34), none⟩, ⟨some 36, .mv (.tmp 0), some (35, true)⟩, ⟨some 37, .mv (.tmp 7),
    some (35, true)⟩, ⟨some 38, .idx 1 (.tmp 36) (.tmp 37), some (35, true)⟩, ⟨some 39, .load false 1 (.tmp 38), some (35, true)⟩, ⟨some 40, .mv (.tmp 1), some (35, true)⟩, ⟨some
    41, .bin .eql (.tmp 39) (.tmp 40), some (35, true)⟩, ⟨some 42, .mv (.tmp 41), some (35, true)⟩, ⟨some 43, .mv (.tmp 0), some (42, false)⟩, ⟨some 44, .mv (.tmp 7), some (42,
    false)⟩, ⟨some 45, .idx 1 (.tmp 43) (.tmp 44), some (42, false)⟩, ⟨some 46, .load false 1 (.tmp 45), some (42, false)⟩, ⟨some 47, .call (.func 292) [(.tmp 46)], some (42,
    false)⟩, ⟨some 48, .mv (.tmp 47), some (42, false)⟩, ⟨some 49, .mv (.tmp 1), some (48, true)⟩, ⟨some 50, .call (.func 292) [(.tmp 49)], some (48, true)⟩, ⟨some 51, .pick (.tmp
    48) (.tmp 50) (.const (.bool false)), some (42, false)⟩, ⟨some 52, .pick (.tmp 42) (.const (.bool true)) (.tmp 51), some (35, true)⟩, ⟨some 53, .pick (.tmp 35) (.tmp 52) (.const
    (.bool false)), none⟩, ⟨some 4, .mv (.tmp 31), none⟩, ⟨some 5, .mv (.tmp 53), none⟩]) .ret)))))
theorem low266 : lowF Tryz.prog [] Tryz.f266 = some (54, lc266.strip, [.tmp 4, .tmp 5]) := by kernel_rfl
theorem fn266 : FnOk Tryz.prog 266 54 lc266 [.tmp 4, .tmp 5] := ⟨Tryz.call266, [], _, Tryz.func266, low266⟩
def lc267 : LCode :=
  (.seq (.region [⟨some 6, .mv (.const (.slice none 0 0)), none⟩]) (.seq (.region [⟨some 10, .mv (.tmp 0), none⟩, ⟨some 11, .mv (.tmp 1), none⟩, ⟨some 12, .slc 1 (.tmp 10) (some
    (.tmp 11)) none, none⟩]) (.seq (.region [⟨some 13, .mv (.tmp 2), none⟩, ⟨some 14, .len (.tmp 13), none⟩, ⟨some 7, .mv (.tmp 14), none⟩]) (.seq (.seq (.region [⟨some 15, .mv
    (.tmp 7), none⟩, ⟨some 16, .bin .eql (.tmp 15) (.const (.int .i64 0)), none⟩]) (.cond (.tmp 16) (.seq (.region [⟨some 17, .mv (.tmp 0), none⟩, ⟨some 6, .mv (.tmp 17), none⟩])
    .ret) .skip)) (.seq (.region [⟨some 18, .mv (.tmp 0), none⟩, ⟨some 19, .len (.tmp 18), none⟩, ⟨some 8, .mv (.tmp 19), none⟩]) (.seq (.seq (.region [⟨some 20, .mv (.tmp 1),
    none⟩, ⟨some 21, .mv (.tmp 8), none⟩, ⟨some 22, .bin .eql (.tmp 20) (.tmp 21), none⟩]) (.cond (.tmp 22) (.seq (.region [⟨some 23, .mv (.tmp 0), none⟩, ⟨some 24, .mv (.tmp 2),
    none⟩, ⟨some 25, .append true 3 1 8 (.tmp 23) (.tmp 24), none⟩, ⟨some 6, .mv (.tmp 25), none⟩]) .ret) .skip)) (.seq (.seq (.region [⟨some 26, .mv (.tmp 8), none⟩, ⟨some 27, .mv
    (.tmp 7), none⟩, ⟨some 28, .bin .add (.tmp 26) (.tmp 27), none⟩, ⟨some 29, .mv (.tmp 0), none⟩, ⟨some 30, .cap (.tmp 29), none⟩, ⟨some 31, .bin .gtr (.tmp 28) (.tmp 30), none⟩])
    (.cond (.tmp 31) (.seq (.region [⟨some 32, .mv (.tmp 0), none⟩, ⟨some 33, .mv (.tmp 1), none⟩, ⟨some 34, .slc 1 (.tmp 32) none (some (.tmp 33)), none⟩, ⟨some 35, .mv (.tmp 8),
    none⟩, ⟨some 36, .mv (.tmp 7), none⟩, ⟨some 37, .bin .add (.tmp 35) (.tmp 36), none⟩, ⟨some 38, .mv (.tmp 1), none⟩, ⟨some 39, .bin .sub (.tmp 37) (.tmp 38), none⟩, ⟨some 40,
    .appendN 3 1 8 [(.int .i64 0)] (.tmp 34) (.tmp 39), none⟩, ⟨some 9, .mv (.tmp 40), none⟩]) (.seq (.region [⟨some 41, .mv (.tmp 9), none⟩, ⟨some 42, .mv (.tmp 1), none⟩, ⟨some
    43, .slc 1 (.tmp 41) (some (.tmp 42)) none, none⟩, ⟨some 44, .mv (.tmp 2), none⟩, ⟨some 45, .bad, none⟩]) (.seq (.regionD [⟨some 46, .mv (.tmp 9), none⟩, ⟨some 47, .mv (.tmp 1),
    none⟩, ⟨some 48, .mv (.tmp 7), none⟩, ⟨some 49, .bin .add (.tmp 47) (.tmp 48), none⟩, ⟨some 50, .slc 1 (.tmp 46) (some (.tmp 49)) none, none⟩, ⟨some 51, .mv (.tmp 0), none⟩,
    ⟨some 52, .mv (.tmp 1), none⟩, ⟨some 53, .slc 1 (.tmp 51) (some (.tmp 52)) none, none⟩, ⟨some 54, .bad, none⟩] [0, 0, 0, 6, 15, 0, 0, 96, 255] [0, 1, 2, 3, 4, 5, 6, 7, 8]) (.seq
    (.region [⟨some 55, .mv (.tmp 9), none⟩, ⟨some 6, .mv (.tmp 55), none⟩]) .ret)))) .skip)) (.seq (.region [⟨some 56, .mv (.tmp 0), none⟩, ⟨some 57, .mv (.tmp 8), none⟩, ⟨some 58,
    .mv (.tmp 7), none⟩, ⟨some 59, .bin .add (.tmp 57) (.tmp 58), none⟩, ⟨some 60, .slc 1 (.tmp 56) none (some (.tmp 59)), none⟩, ⟨some 0, .mv (.tmp 60), none⟩]) (.seq (.seq
    (.region [⟨some 61, .mv (.tmp 2), none⟩, ⟨some 62, .mv (.tmp 0), none⟩, ⟨some 63, .mv (.tmp 1), none⟩, ⟨some 64, .mv (.tmp 7), none⟩, ⟨some 65, .bin .add (.tmp 63) (.tmp 64),
    none⟩, ⟨some 66, .slc 1 (.tmp 62) (some (.tmp 65)) none, none⟩, ⟨some 67, .call (.func 293) [(.tmp 61), (.tmp 66)], none⟩, ⟨some 68, .un .not (.tmp 67), none⟩]) (.cond (.tmp 68)
    (.seq (.regionD [⟨some 69, .mv (.tmp 0), none⟩, ⟨some 70, .mv (.tmp 1), none⟩, ⟨some 71, .mv (.tmp 7), none⟩, ⟨some 72, .bin .add (.tmp 70) (.tmp 71), none⟩, ⟨some 73, .slc 1
    (.tmp 69) (some (.tmp 72)) none, none⟩, ⟨some 74, .mv (.tmp 0), none⟩, ⟨some 75, .mv (.tmp 1), none⟩, ⟨some 76, .slc 1 (.tmp 74) (some (.tmp 75)) none, none⟩, ⟨some 77, .bad,
    none⟩] [0, 0, 0, 6, 15, 0, 0, 96, 255] [0, 1, 2, 3, 4, 5, 6, 7, 8]) (.seq (.region [⟨some 78, .mv (.tmp 0), none⟩, ⟨some 79, .mv (.tmp 1), none⟩, ⟨some 80, .slc 1 (.tmp 78)
    (some (.tmp 79)) none, none⟩, ⟨some 81, .mv (.tmp 2), none⟩, ⟨some 82, .bad, none⟩]) (.seq (.region [⟨some 83, .mv (.tmp 0), none⟩, ⟨some 6, .mv (.tmp 83), none⟩]) .ret)))
    .skip)) (.seq (.region [⟨some 84, .mv (.tmp 0), none⟩, ⟨some 85, .mv (.tmp 8), none⟩, ⟨some 86, .slc 1 (.tmp 84) (some (.tmp 85)) none, none⟩, ⟨some 87, .mv (.tmp 2), none⟩,
    ⟨some 88, .bad, none⟩]) (.seq (.region [⟨some 89, .mv (.tmp 0), none⟩, ⟨some 90, .mv (.tmp 1), none⟩, ⟨some 91, .slc 1 (.tmp 89) (some (.tmp 90)) none, none⟩, ⟨some 92, .mv
    (.tmp 7), none⟩, ⟨some 93, .call (.func 294) [(.tmp 91), (.tmp 92)], none⟩]) (.seq (.region [⟨some 94, .mv (.tmp 0), none⟩, ⟨some 6, .mv (.tmp 94), none⟩]) .ret))))))))))))
theorem low267 : lowF Tryz.prog [25] Tryz.f267 = some (95, lc267.strip, [.tmp 6]) := by kernel_rfl
theorem fn267 : FnOk Tryz.prog 267 95 lc267 [.tmp 6] := ⟨Tryz.call267, [25], _, Tryz.func267, low267⟩
def lc290 : LCode :=
  (.seq (.region [⟨some 6, .mv (.const (.int .i64 0)), none⟩]) (.seq (.regionD [⟨some 8, .mv (.tmp 1), none⟩, ⟨some 9, .load false 1 (.tmp 2), none⟩, ⟨some 10, .bin .sub (.tmp 9)
    (.const (.int .i64 1)), none⟩, ⟨some 11, .call (.func 168) [(.tmp 8), (.const (.int .i64 0)), (.tmp 10)], none⟩, ⟨some 12, .call (.func 152) [(.tmp 11), (.const (.int .i64 6))],
    none⟩, ⟨some 13, .mv (.tmp 1), none⟩, ⟨some 14, .load false 1 (.tmp 3), none⟩, ⟨some 15, .bin .gtr (.tmp 13) (.tmp 14), none⟩, ⟨some 16, .call (.func 152) [(.tmp 15), (.const
    (.int .i64 9))], none⟩, ⟨some 17, .lit false 34 1 [(.tmp 12), (.tmp 16)], none⟩, ⟨some 18, .call (.func 151) [(.tmp 17)], none⟩, ⟨some 7, .mv (.tmp 18), none⟩] [0, 0, 2, 7, 15,
    0, 0, 96, 255, 511, 1023, 2047] [0, 1, 2, 3, 4, 5, 6, 7, 8, 9, 10, 11]) (.seq (.region [⟨some 19, .mv (.tmp 1), none⟩, ⟨none, .store 1 (.tmp 3) (.tmp 19), none⟩]) (.seq (.region
    [⟨some 20, .mv (.tmp 7), none⟩, ⟨some 6, .mv (.tmp 20), none⟩]) .ret))))
theorem low290 : lowF Tryz.prog [] Tryz.f290 = some (21, lc290.strip, [.tmp 6]) := by kernel_rfl
theorem fn290 : FnOk Tryz.prog 290 21 lc290 [.tmp 6] := ⟨Tryz.call290, [], _, Tryz.func290, low290⟩
def lc291 : LCode :=
  (.seq (.region [⟨some 4, .mv (.const (.bool false)), none⟩]) (.seq (.region [⟨some 5, .mv (.tmp 0), none⟩, ⟨some 6, .call (.func 226) [(.tmp 5)], none⟩, ⟨some 7, .mv (.tmp 6),
    none⟩, ⟨some 8, .mv (.tmp 1), some (7, true)⟩, ⟨some 9, .call (.func 226) [(.tmp 8)], some (7, true)⟩, ⟨some 10, .un .not (.tmp 9), some (7, true)⟩, ⟨some 11, .pick (.tmp 7)
    (.tmp 10) (.const (.bool false)), none⟩, ⟨some 12, .mv (.tmp 11), none⟩, ⟨some 13, .mv (.tmp 0), some (12, false)⟩, ⟨some 14, .mv (.tmp 1), some (12, false)⟩, ⟨some 15, .bin
    .lss (.tmp 13) (.tmp 14), some (12, false)⟩, ⟨some 16, .pick (.tmp 12) (.const (.bool true)) (.tmp 15), none⟩, ⟨some 4, .mv (.tmp 16), none⟩]) .ret))
theorem low291 : lowF Tryz.prog [] Tryz.f291 = some (17, lc291.strip, [.tmp 4]) := by kernel_rfl
theorem fn291 : FnOk Tryz.prog 291 17 lc291 [.tmp 4] := ⟨Tryz.call291, [], _, Tryz.func291, low291⟩
def lc292 : LCode :=
  (.seq (.region [⟨some 2, .mv (.const (.bool false)), none⟩]) (.seq (.region [⟨some 3, .mv (.tmp 0), none⟩, ⟨some 4, .mv (.tmp 0), none⟩, ⟨some 5, .bin .neq (.tmp 3) (.tmp 4),
    none⟩, ⟨some 2, .mv (.tmp 5), none⟩]) .ret))
theorem low292 : lowF Tryz.prog [] Tryz.f292 = some (6, lc292.strip, [.tmp 2]) := by kernel_rfl
theorem fn292 : FnOk Tryz.prog 292 6 lc292 [.tmp 2] := ⟨Tryz.call292, [], _, Tryz.func292, low292⟩
def lc250 : LCode :=
  (.seq (.region [⟨some 4, .mv (.const (.int .i64 0)), none⟩]) (.seq (.seq (.region [⟨some 6, .mv (.tmp 0), none⟩, ⟨some 7, .len (.tmp 6), none⟩, ⟨some 8, .mv (.const (.int .i64
    0)), none⟩]) (.block 0 (.loop (.seq (.region [⟨some 9, .bin .lss (.tmp 8) (.tmp 7), none⟩]) (.seq (.cond (.tmp 9) .skip (.exit 0)) (.seq (.block 1 (.seq (.region [⟨some 10, .mv
    (.tmp 8), none⟩, ⟨some 5, .mv (.tmp 10), none⟩]) (.seq (.region [⟨some 11, .mv (.tmp 1), none⟩, ⟨some 12, .mv (.tmp 0), none⟩, ⟨some 13, .mv (.tmp 5), none⟩, ⟨some 14, .idx 1
    (.tmp 12) (.tmp 13), none⟩, ⟨some 15, .load false 1 (.tmp 14), none⟩, ⟨some 16, .bin .eql (.tmp 11) (.tmp 15), none⟩]) (.cond (.tmp 16) (.seq (.region [⟨some 17, .mv (.tmp 5),
    none⟩, ⟨some 4, .mv (.tmp 17), none⟩]) .ret) .skip)))) (.region [⟨some 18, .bin .add (.tmp 8) (.const (.int .i64 1)), none⟩, ⟨some 8, .mv (.tmp 18), none⟩]))))))) (.seq (.region
    [⟨some 4, .mv (.const (.int .i64 (-1))), none⟩]) .ret)))
theorem low250 : lowF Tryz.prog [] Tryz.f250 = some (19, lc250.strip, [.tmp 4]) := by kernel_rfl
theorem fn250 : FnOk Tryz.prog 250 19 lc250 [.tmp 4] := ⟨Tryz.call250, [], _, Tryz.func250, low250⟩
def lc223 : LCode :=
  (.seq (.region [⟨some 2, .mv (.const (.slice none 0 0)), none⟩]) (.seq (.region [⟨some 3, .mv (.const (.int .i64 0)), none⟩]) (.seq (.seq (.region [⟨some 9, .mv (.tmp 0), none⟩,
    ⟨some 10, .len (.tmp 9), none⟩, ⟨some 11, .mv (.const (.int .i64 0)), none⟩]) (.block 0 (.loop (.seq (.region [⟨some 12, .bin .lss (.tmp 11) (.tmp 10), none⟩]) (.seq (.cond
    (.tmp 12) .skip (.exit 0)) (.seq (.block 1 (.seq (.region [⟨some 13, .idx 1 (.tmp 9) (.tmp 11), none⟩, ⟨some 14, .load false 1 (.tmp 13), none⟩, ⟨some 5, .mv (.tmp 14), none⟩])
    (.seq (.region [⟨some 15, .mv (.tmp 3), none⟩, ⟨some 16, .mv (.tmp 5), none⟩, ⟨some 17, .len (.tmp 16), none⟩, ⟨some 18, .bin .add (.tmp 15) (.tmp 17), none⟩, ⟨some 3, .mv (.tmp
    18), none⟩]) (.seq (.region [⟨some 19, .mv (.tmp 3), none⟩, ⟨some 20, .bin .lss (.tmp 19) (.const (.int .i64 0)), none⟩]) (.cond (.tmp 20) (.region [⟨some 21, .bad, none⟩,
    ⟨none, .bad, none⟩]) .skip))))) (.region [⟨some 22, .bin .add (.tmp 11) (.const (.int .i64 1)), none⟩, ⟨some 11, .mv (.tmp 22), none⟩]))))))) (.seq (.region [⟨some 23, .mv (.tmp
    3), none⟩, ⟨some 24, .call (.func 265) [(.const (.slice none 0 0)), (.tmp 23)], none⟩, ⟨some 6, .mv (.tmp 24), none⟩]) (.seq (.seq (.region [⟨some 25, .mv (.tmp 0), none⟩, ⟨some
    26, .len (.tmp 25), none⟩, ⟨some 27, .mv (.const (.int .i64 0)), none⟩]) (.block 2 (.loop (.seq (.region [⟨some 28, .bin .lss (.tmp 27) (.tmp 26), none⟩]) (.seq (.cond (.tmp 28)
    .skip (.exit 2)) (.seq (.block 3 (.seq (.region [⟨some 29, .idx 1 (.tmp 25) (.tmp 27), none⟩, ⟨some 30, .load false 1 (.tmp 29), none⟩, ⟨some 8, .mv (.tmp 30), none⟩]) (.region
    [⟨some 31, .mv (.tmp 6), none⟩, ⟨some 32, .mv (.tmp 8), none⟩, ⟨some 33, .append true 3 1 8 (.tmp 31) (.tmp 32), none⟩, ⟨some 6, .mv (.tmp 33), none⟩]))) (.region [⟨some 34,
    .bin .add (.tmp 27) (.const (.int .i64 1)), none⟩, ⟨some 27, .mv (.tmp 34), none⟩]))))))) (.seq (.region [⟨some 35, .mv (.tmp 6), none⟩, ⟨some 2, .mv (.tmp 35), none⟩])
    .ret))))))
theorem low223 : lowF Tryz.prog [33] Tryz.f223 = some (36, lc223.strip, [.tmp 2]) := by kernel_rfl
theorem fn223 : FnOk Tryz.prog 223 36 lc223 [.tmp 2] := ⟨Tryz.call223, [33], _, Tryz.func223, low223⟩
end Go.Pw
set_option linter.unusedSimpArgs false
set_option linter.unusedVariables false
namespace Go.Pw
set_option maxRecDepth 2000
open Go Go.Proofs A1 A2 A3 A4
instance : Mix Tryz.prog := ⟨⟨by kernel_rfl⟩⟩
theorem C168 {n lo hi : Int} : PFD Tryz.prog 168 [vi .i64 n, vi .i64 lo, vi .i64 hi] (vbl (wi n lo hi)) := by
  refine pi1 fn168 ?_
  (repeat' first | (refine Owe.same ?_; first | refine Owe.o ?_ | refine Owe.mk ?_ ?_) | (refine Fork.same ?_; (first | refine fkD ?_ ?_ | refine fkN ?_ ?_ | refine fkM ?_ ?_) <;> intro h) | refine MvQ.stay ?_)
  · (refine rqK rfl ?_; (repeat' first | exact rfl | (refine qS ?_; constructor))); simp [*]
  · (refine rqK rfl ?_; (repeat' first | exact rfl | (refine qS ?_; constructor))); simp only [decide_eq_false_iff_not]; omega
theorem C46 {n lo hi : Int} : PFD Tryz.prog 46 [vi .i64 n, vi .i64 lo, vi .i64 hi] (vbl (wi n lo hi)) := by
  refine pi1 fn46 ?_
  (repeat' first | (refine Owe.same ?_; first | refine Owe.o ?_ | refine Owe.mk ?_ ?_) | (refine Fork.same ?_; (first | refine fkD ?_ ?_ | refine fkN ?_ ?_ | refine fkM ?_ ?_) <;> intro h) | refine MvQ.stay ?_)
  · (refine rqK rfl ?_; (repeat' first | exact rfl | (refine qS ?_; constructor))); simp [*]
  · (refine rqK rfl ?_; (repeat' first | exact rfl | (refine qS ?_; constructor))); simp only [decide_eq_false_iff_not]; omega
theorem C152 {b : Bool} {e : Int} : PFD Tryz.prog 152 [vbl b, vi .i64 e] (vi .i64 (unb b e)) := by
  refine pi1 fn152 ?_
  (repeat' first | (refine Owe.same ?_; first | refine Owe.o ?_ | refine Owe.mk ?_ ?_) | (refine Fork.same ?_; (first | refine fkD ?_ ?_ | refine fkN ?_ ?_ | refine fkM ?_ ?_) <;> intro h) | refine MvQ.stay ?_)
  · (refine rqK rfl ?_; (repeat' first | exact rfl | (refine qS ?_; constructor))); simp [unb, *]
  · (refine rqK rfl ?_; (repeat' first | exact rfl | (refine qS ?_; constructor))); simp [unb, *]
theorem C151 {l : List Int} : l.length < 4611686018427387904 → PFD Tryz.prog 151 [.c (ints l)] (vi .i64 (fstE l)) := fun hl => by
  refine pi1 fn151 ?_
  (repeat' first | (refine Owe.same ?_; first | refine Owe.o ?_ | refine Owe.mk ?_ ?_) | (refine Fork.same ?_; (first | refine fkD ?_ ?_ | refine fkN ?_ ?_ | refine fkM ?_ ?_) <;> intro h) | refine MvQ.stay ?_)
  refine Sat.lp0 (fun k : Nat => [(7, vi .i64 k), (6, vi .i64 l.length), (5, .c (ints l))]) (fun k => k ≤ l.length ∧ fstE l = fstE (l.drop k)) (fun k => l.length - k) 0 ⟨Nat.zero_le _, rfl⟩ (by ((first | refine qen ?_ | refine qvs ?_ | refine qeq ?_ | refine qst ?_ | refine qv ?_ | refine qc ?_ | refine qe ?_ | refine qcs ?_ | skip); (repeat' first | exact rfl | (refine qS ?_; constructor)))) ?_
  intro k hk
  (repeat' first | (refine Owe.same ?_; first | refine Owe.o ?_ | refine Owe.mk ?_ ?_) | (refine Fork.same ?_; (first | refine fkD ?_ ?_ | refine fkN ?_ ?_ | refine fkM ?_ ?_) <;> intro h) | refine MvQ.stay ?_)
  · simp only [Int.toNat_natCast] at h
    (refine rqK rfl ?_; (repeat' first | exact rfl | (refine qS ?_; constructor)))
    rw [hk.2, fstE_drop l k (by omega), if_neg h, Int.toNat_natCast]
  · simp only [Int.toNat_natCast] at h
    refine again0 (k + 1) ⟨by omega, ?_⟩ (by omega) (by ((first | refine qen ?_ | refine qvs ?_ | refine qeq ?_ | refine qst ?_ | refine qv ?_ | refine qc ?_ | refine qe ?_ | refine qcs ?_ | skip); (repeat' first | exact rfl | (refine qS ?_; constructor))))
    rw [hk.2, fstE_drop l k (by omega), if_pos h]
  · (refine rqK rfl ?_; (repeat' first | exact rfl | (refine qS ?_; constructor)))
    rw [hk.2, List.drop_of_length_le (by omega)]; rfl
abbrev isN (n : Int) : Prop := 0 ≤ n ∧ n ≤ 10000
abbrev isT (n : Int) : Prop := 0 ≤ n ∧ n ≤ 100000
theorem C154 {n : Int} : PFD Tryz.prog 154 [vi .i64 n] (vbl (decide (isN n))) := by
  refine pi1 fn154 ?_
  (repeat' first | (refine Owe.same ?_; first | refine Owe.o ?_ | refine Owe.mk ?_ ?_) | (refine Fork.same ?_; (first | refine fkD ?_ ?_ | refine fkN ?_ ?_ | refine fkM ?_ ?_) <;> intro h) | ((first | refine OpsL.same ?_ | refine OpsDL.same ?_); first | refine pK C168 rfl rfl ?_) | refine MvQ.stay ?_)
  (refine rqK rfl ?_; (repeat' first | exact rfl | (refine qS ?_; constructor)))
theorem C234 {n : Int} : PFD Tryz.prog 234 [vi .i64 n] (vbl (decide (isT n))) := by
  refine pi1 fn234 ?_
  (repeat' first | (refine Owe.same ?_; first | refine Owe.o ?_ | refine Owe.mk ?_ ?_) | (refine Fork.same ?_; (first | refine fkD ?_ ?_ | refine fkN ?_ ?_ | refine fkM ?_ ?_) <;> intro h) | ((first | refine OpsL.same ?_ | refine OpsDL.same ?_); first | refine pK C168 rfl rfl ?_) | refine MvQ.stay ?_)
  (refine rqK rfl ?_; (repeat' first | exact rfl | (refine qS ?_; constructor)))
theorem C118 {n : Int} : PFD Tryz.prog 118 [vi .i64 n] (vbl (decide (isN n))) := by
  refine pi1 fn118 ?_
  (repeat' first | (refine Owe.same ?_; first | refine Owe.o ?_ | refine Owe.mk ?_ ?_) | (refine Fork.same ?_; (first | refine fkD ?_ ?_ | refine fkN ?_ ?_ | refine fkM ?_ ?_) <;> intro h) | ((first | refine OpsL.same ?_ | refine OpsDL.same ?_); first | refine pK C46 rfl rfl ?_) | refine MvQ.stay ?_)
  (refine rqK rfl ?_; (repeat' first | exact rfl | (refine qS ?_; constructor)))
theorem C119 {n : Int} : PFD Tryz.prog 119 [vi .i64 n] (vbl (decide (isT n))) := by
  refine pi1 fn119 ?_
  (repeat' first | (refine Owe.same ?_; first | refine Owe.o ?_ | refine Owe.mk ?_ ?_) | (refine Fork.same ?_; (first | refine fkD ?_ ?_ | refine fkN ?_ ?_ | refine fkM ?_ ?_) <;> intro h) | ((first | refine OpsL.same ?_ | refine OpsDL.same ?_); first | refine pK C46 rfl rfl ?_) | refine MvQ.stay ?_)
  (refine rqK rfl ?_; (repeat' first | exact rfl | (refine qS ?_; constructor)))
def tksE (lo hi : Int) : Int := fstE [unl (isT lo ∧ isT hi) 2, unl (lo ≤ hi) 9]
theorem unl_of {p : Prop} [Decidable p] {b : Bool} {e : Int} (h : b = decide p) : unb b e = unl p e := by subst h; rfl
theorem C205 {lo hi : Int} : PFD Tryz.prog 205 [.agg [int lo, int hi]] (vi .i64 (tksE lo hi)) := by
  refine pi1 fn205 ?_
  (repeat' first | (refine Owe.same ?_; first | refine Owe.o ?_ | refine Owe.mk ?_ ?_) | (refine Fork.same ?_; (first | refine fkD ?_ ?_ | refine fkN ?_ ?_ | refine fkM ?_ ?_) <;> intro h) | ((first | refine OpsL.same ?_ | refine OpsDL.same ?_); first | refine pK C234 rfl rfl ?_ | refine pK C152 rfl rfl ?_ | refine pK C151 rfl rfl ?_) | refine MvQ.stay ?_)
  · (refine rqK rfl ?_; (repeat' first | exact rfl | (refine qS ?_; constructor)))
    rw [tksE, ← unl_of (decide_eq_decide.2 ⟨fun hh => ⟨h, hh⟩, fun hh => hh.2⟩)]
  · (refine rqK rfl ?_; (repeat' first | exact rfl | (refine qS ?_; constructor)))
    rw [tksE, ← unl_of (decide_eq_false fun hh => h hh.1).symm]
theorem C226 {n : Int} : PFD Tryz.prog 226 [vi .i64 n] (vbl false) := by
  refine pi1 fn226 ?_
  (repeat' first | (refine Owe.same ?_; first | refine Owe.o ?_ | refine Owe.mk ?_ ?_) | (refine Fork.same ?_; (first | refine fkD ?_ ?_ | refine fkN ?_ ?_ | refine fkM ?_ ?_) <;> intro h) | refine MvQ.stay ?_)
  (refine rqK rfl ?_; (repeat' first | exact rfl | (refine qS ?_; constructor)))
  simp
theorem C292 {n : Int} : PFD Tryz.prog 292 [vi .i64 n] (vbl false) := by
  refine pi1 fn292 ?_
  (repeat' first | (refine Owe.same ?_; first | refine Owe.o ?_ | refine Owe.mk ?_ ?_) | (refine Fork.same ?_; (first | refine fkD ?_ ?_ | refine fkN ?_ ?_ | refine fkM ?_ ?_) <;> intro h) | refine MvQ.stay ?_)
  (refine rqK rfl ?_; (repeat' first | exact rfl | (refine qS ?_; constructor)))
  simp
theorem C291 {a b : Int} : PFD Tryz.prog 291 [vi .i64 a, vi .i64 b] (vbl (decide (a < b))) := by
  refine pi1 fn291 ?_
  (repeat' first | (refine Owe.same ?_; first | refine Owe.o ?_ | refine Owe.mk ?_ ?_) | (refine Fork.same ?_; (first | refine fkY ?_ | refine fkF ?_ | ((first | refine fkD ?_ ?_ | refine fkN ?_ ?_ | refine fkM ?_ ?_) <;> intro h))) | ((first | refine OpsL.same ?_ | refine OpsDL.same ?_); first | refine oK C226 rfl rfl rfl ?_) | refine MvQ.stay ?_)
  (refine rqK rfl ?_; (repeat' first | exact rfl | (refine qS ?_; constructor)))
abbrev cmpI (a b : Int) : Int := if a < b then -1 else if b < a then 1 else 0
theorem C160 {a b : Int} : PFD Tryz.prog 160 [vi .i64 a, vi .i64 b] (vi .i64 (cmpI a b)) := by
  refine pi1 fn160 ?_
  (repeat' first | (refine Owe.same ?_; first | refine Owe.o ?_ | refine Owe.mk ?_ ?_) | (refine Fork.same ?_; (first | refine fkY ?_ | refine fkF ?_ | ((first | refine fkD ?_ ?_ | refine fkN ?_ ?_ | refine fkM ?_ ?_) <;> intro h))) | ((first | refine OpsL.same ?_ | refine OpsDL.same ?_); first | refine oK C226 rfl rfl rfl ?_) | refine MvQ.stay ?_)
  · (refine rqK rfl ?_; (repeat' first | exact rfl | (refine qS ?_; constructor))); rw [cmpI, if_pos h]
  · rename_i h1; (refine rqK rfl ?_; (repeat' first | exact rfl | (refine qS ?_; constructor))); rw [cmpI, if_neg h1, if_pos h]
  · rename_i h1; (refine rqK rfl ?_; (repeat' first | exact rfl | (refine qS ?_; constructor))); rw [cmpI, if_neg h1, if_neg h]
theorem C148 {l : List Int} : l.length < 4611686018427387904 → PFD Tryz.prog 148 [.c (ints l)] (vi .i64 (fstE l)) := fun hl => by
  refine pi1 fn148 ?_
  (repeat' first | (refine Owe.same ?_; first | refine Owe.o ?_ | refine Owe.mk ?_ ?_) | (refine Fork.same ?_; (first | refine fkD ?_ ?_ | refine fkN ?_ ?_ | refine fkM ?_ ?_) <;> intro h) | refine MvQ.stay ?_)
  refine Sat.lp0 (fun k : Nat => [(8, vi .i64 k), (7, vi .i64 l.length), (6, .c (ints l)), (3, vi .i64 0)]) (fun k => k ≤ l.length ∧ fstE l = fstE (l.drop k)) (fun k => l.length - k) 0 ⟨Nat.zero_le _, rfl⟩ (by ((first | refine qen ?_ | refine qvs ?_ | refine qeq ?_ | refine qst ?_ | refine qv ?_ | refine qc ?_ | refine qe ?_ | refine qcs ?_ | skip); (repeat' first | exact rfl | (refine qS ?_; constructor)))) ?_
  intro k hk
  (repeat' first | (refine Owe.same ?_; first | refine Owe.o ?_ | refine Owe.mk ?_ ?_) | (refine Fork.same ?_; (first | refine fkD ?_ ?_ | refine fkN ?_ ?_ | refine fkM ?_ ?_) <;> intro h) | refine MvQ.stay ?_)
  · simp only [Int.toNat_natCast] at h
    (refine rqK rfl ?_; (repeat' first | exact rfl | (refine qS ?_; constructor)))
    rw [hk.2, fstE_drop l k (by omega), if_neg h, Int.toNat_natCast]
  · simp only [Int.toNat_natCast] at h
    refine again0 (k + 1) ⟨by omega, ?_⟩ (by omega) (by ((first | refine qen ?_ | refine qvs ?_ | refine qeq ?_ | refine qst ?_ | refine qv ?_ | refine qc ?_ | refine qe ?_ | refine qcs ?_ | skip); (repeat' first | exact rfl | (refine qS ?_; constructor))))
    rw [hk.2, fstE_drop l k (by omega), if_pos h]
  · (refine rqK rfl ?_; (repeat' first | exact rfl | (refine qS ?_; constructor)))
    rw [hk.2, List.drop_of_length_le (by omega)]; rfl
def idxE (n : Int) : Int → List Int → Int
  | _, [] => -1
  | k, x :: l => if n = x then k else idxE n (k + 1) l
theorem idxE_drop (n : Int) (l : List Int) (k : Nat) (h : k < l.length) : idxE n k (l.drop k) = if n = l.getD k 0 then (k : Int) else idxE n ((k + 1 : Nat) : Int) (l.drop (k + 1)) := by
  have e : l.drop k = l.getD k 0 :: l.drop (k + 1) := by
    rw [List.getD_eq_getElem?_getD, List.getElem?_eq_getElem h]; exact List.drop_eq_getElem_cons h
  rw [e, idxE]; rfl
theorem idxE_ge (n : Int) : ∀ (l : List Int) (k : Int), 0 ≤ k → (0 ≤ idxE n k l ↔ n ∈ l)
  | [], k, _ => by simp [idxE]
  | x :: l, k, hk => by
    rw [idxE]
    split
    · rename_i h; subst h; simp [hk]
    · rename_i h; rw [idxE_ge n l (k + 1) (by omega), List.mem_cons]; simp [h]
theorem C250 {l : List Int} {n : Int} : l.length ≤ 1000000 → PFD Tryz.prog 250 [.c (ints l), vi .i64 n] (vi .i64 (idxE n 0 l)) := fun hl => by
  refine pi1 fn250 ?_
  (repeat' first | (refine Owe.same ?_; first | refine Owe.o ?_ | refine Owe.mk ?_ ?_) | (refine Fork.same ?_; (first | refine fkD ?_ ?_ | refine fkN ?_ ?_ | refine fkM ?_ ?_) <;> intro h) | refine MvQ.stay ?_)
  refine Sat.lp0 (fun k : Nat => [(8, vi .i64 k), (7, vi .i64 l.length), (0, .c (ints l)), (1, vi .i64 n)]) (fun k => k ≤ l.length ∧ idxE n 0 l = idxE n k (l.drop k)) (fun k => l.length - k) 0 ⟨Nat.zero_le _, rfl⟩ (by ((first | refine qen ?_ | refine qvs ?_ | refine qeq ?_ | refine qst ?_ | refine qv ?_ | refine qc ?_ | refine qe ?_ | refine qcs ?_ | skip); (repeat' first | exact rfl | (refine qS ?_; constructor)))) ?_
  intro k hk
  (repeat' first | (refine Owe.same ?_; first | refine Owe.o ?_ | refine Owe.mk ?_ ?_) | (refine Fork.same ?_; (first | refine fkD ?_ ?_ | refine fkN ?_ ?_ | refine fkM ?_ ?_) <;> intro h) | refine MvQ.stay ?_)
  · have e := idxE_drop n l k (by omega)
    have h : n = l.getD k 0 := h
    rw [if_pos h, ← hk.2] at e
    (refine rqK rfl ?_; (repeat' first | exact rfl | (refine qS ?_; constructor))); rw [e]
  · have e := idxE_drop n l k (by omega)
    have h : ¬ n = l.getD k 0 := h
    rw [if_neg h, ← hk.2] at e
    exact again0 (k + 1) ⟨by omega, e⟩ (by omega) (by ((first | refine qen ?_ | refine qvs ?_ | refine qeq ?_ | refine qst ?_ | refine qv ?_ | refine qc ?_ | refine qe ?_ | refine qcs ?_ | skip); (repeat' first | exact rfl | (refine qS ?_; constructor))))
  · have e : idxE n 0 l = -1 := by rw [hk.2, List.drop_of_length_le (by omega)]; rfl
    (refine rqK rfl ?_; (repeat' first | exact rfl | (refine qS ?_; constructor))); rw [e]
theorem C186 {l : List Int} {n : Int} : l.length ≤ 1000000 → PFD Tryz.prog 186 [.c (ints l), vi .i64 n] (vbl (decide (n ∈ l))) := fun hl => by
  refine pi1 fn186 ?_
  (repeat' first | (refine Owe.same ?_; first | refine Owe.o ?_ | refine Owe.mk ?_ ?_) | (refine Fork.same ?_; (first | refine fkD ?_ ?_ | refine fkN ?_ ?_ | refine fkM ?_ ?_) <;> intro h) | ((first | refine OpsL.same ?_ | refine OpsDL.same ?_); first | refine pK (C250 hl) rfl rfl ?_) | refine MvQ.stay ?_)
  (refine rqK rfl ?_; (repeat' first | exact rfl | (refine qS ?_; constructor)))
  exact decide_eq_decide.2 (idxE_ge n l 0 (Int.le_refl _))
theorem C44 {l m : List Int} : l.length < 4611686018427387904 → PFD Tryz.prog 44 [.c (ints l), .c (ints m)] (vbl (decide (l = m))) := fun hl => by
  refine pi1 fn44 ?_
  (repeat' first | (refine Owe.same ?_; first | refine Owe.o ?_ | refine Owe.mk ?_ ?_) | (refine Fork.same ?_; (first | refine fkD ?_ ?_ | refine fkN ?_ ?_ | refine fkM ?_ ?_) <;> intro h) | refine MvQ.stay ?_)
  · (refine rqK rfl ?_; (repeat' first | exact rfl | (refine qS ?_; constructor))); simp only [decide_eq_false_iff_not]; intro he; subst he; omega
  · have hlm : l.length = m.length := by omega
    clear h
    refine Sat.lp0 (fun k : Nat => [(5, vi .i64 k), (0, .c (ints l)), (1, .c (ints m))]) (fun k => k ≤ l.length ∧ ∀ i, i < k → l.getD i 0 = m.getD i 0) (fun k => l.length - k) 0 ⟨Nat.zero_le _, fun i hi => by omega⟩ (by ((first | refine qen ?_ | refine qvs ?_ | refine qeq ?_ | refine qst ?_ | refine qv ?_ | refine qc ?_ | refine qe ?_ | refine qcs ?_ | skip); (repeat' first | exact rfl | (refine qS ?_; constructor)))) ?_
    intro k hk
    (repeat' first | (refine Owe.same ?_; first | refine Owe.o ?_ | refine Owe.mk ?_ ?_) | (refine Fork.same ?_; (first | refine fkD ?_ ?_ | refine fkN ?_ ?_ | refine fkM ?_ ?_) <;> intro h) | refine MvQ.stay ?_)
    · simp only [Int.toNat_natCast] at h
      (refine rqK rfl ?_; (repeat' first | exact rfl | (refine qS ?_; constructor))); simp only [decide_eq_false_iff_not]; intro he; subst he; exact h rfl
    · simp only [Int.toNat_natCast] at h
      refine again0 (k + 1) ⟨by omega, fun i hi => ?_⟩ (by omega) (by ((first | refine qen ?_ | refine qvs ?_ | refine qeq ?_ | refine qst ?_ | refine qv ?_ | refine qc ?_ | refine qe ?_ | refine qcs ?_ | skip); (repeat' first | exact rfl | (refine qS ?_; constructor))))
      rcases Nat.lt_succ_iff_lt_or_eq.1 hi with h3 | rfl
      · exact hk.2 i h3
      · exact h
    · (refine rqK rfl ?_; (repeat' first | exact rfl | (refine qS ?_; constructor))); simp only [decide_eq_true_eq]; exact ext_getD 0 hlm fun i hi => hk.2 i (by omega)
end Go.Pw
set_option linter.unusedSimpArgs false
set_option linter.unusedVariables false
namespace Go.Pw
set_option maxRecDepth 2000
open Go Go.Proofs A1 A2 A3 A4
def eachN (f : Nat → Int) : Nat → Nat → Int × Int
  | _, 0 => (0, 0)
  | k, m + 1 => if f k = 0 then eachN f (k + 1) m else (k, f k)
theorem eachN_from {f : Nat → Int} {n : Nat} : ∀ {k : Nat}, k ≤ n → (∀ i, i < k → f i = 0) → eachN f 0 n = eachN f k (n - k)
  | 0, _, _ => rfl
  | k + 1, hk, h => by
    rw [eachN_from (k := k) (by omega) fun i hi => h i (by omega), show n - k = (n - (k + 1)) + 1 by omega, eachN, if_pos (h k (by omega))]
theorem eachN_e {f : Nat → Int} {k n : Nat} (hk : k < n) (h : ∀ i, i < k → f i = 0) (hx : ¬ f k = 0) : eachN f 0 n = ((k : Int), f k) := by
  rw [eachN_from (Nat.le_of_lt hk) h, show n - k = (n - k - 1) + 1 by omega, eachN, if_neg hx]
theorem eachN_z {f : Nat → Int} {n : Nat} (h : ∀ i, i < n → f i = 0) : eachN f 0 n = (0, 0) := by
  rw [eachN_from (Nat.le_refl n) h, Nat.sub_self]; rfl
theorem eachN_ok {f : Nat → Int} {n : Nat} : (eachN f 0 n).2 = 0 ↔ ∀ i, i < n → f i = 0 := by
  have : ∀ m k, (eachN f k m).2 = 0 ↔ ∀ i, k ≤ i → i < k + m → f i = 0 := fun m => by
    induction m with
    | zero => intro k; exact ⟨fun _ i h1 h2 => by omega, fun _ => rfl⟩
    | succ m ih =>
      intro k
      rw [eachN]
      split
      · rename_i h; rw [ih]
        refine ⟨fun hh i h1 h2 => ?_, fun hh i h1 h2 => hh i (by omega) (by omega)⟩
        rcases Nat.eq_or_lt_of_le h1 with rfl | h3
        · exact h
        · exact hh i h3 (by omega)
      · rename_i h; exact ⟨fun hh => absurd hh h, fun hh => absurd (hh k (Nat.le_refl _) (by omega)) h⟩
  rw [this]
  exact ⟨fun h i hi => h i (Nat.zero_le _) (by omega), fun h i _ hi => h i (by omega)⟩
theorem succ_all {P : Nat → Prop} {k : Nat} (h : ∀ i, i < k → P i) (hk : P k) : ∀ i, i < k + 1 → P i := fun i hi => by
  rcases Nat.lt_succ_iff_lt_or_eq.1 hi with h3 | rfl
  · exact h i h3
  · exact hk
abbrev lastI (l : List Int) (k : Nat) : Int := if k = 0 then -1 else l.getD (k - 1) 0
abbrev ascN (l : List Int) (b : Int) (i : Nat) : Int := fstE [unl (0 ≤ l.getD i 0 ∧ l.getD i 0 ≤ b - 1) 6, unl (lastI l i < l.getD i 0) 9]
def ascE (l : List Int) (b : Int) : Int × Int := eachN (ascN l b) 0 l.length
theorem C259 {l : List Int} {b : Int} : (l.length ≤ 1000000 ∧ -1000000 ≤ b ∧ b ≤ 1000000) → PFD Tryz.prog 259 [.c (ints l), vi .i64 b] (.tup [vi .i64 (ascE l b).1, vi .i64 (ascE l b).2]) := fun ⟨hl, hb⟩ => by
  obtain ⟨q, hq⟩ : ∃ q, q = ascE l b := ⟨_, rfl⟩
  rw [← hq]
  refine pi2 fn259 ?_
  (repeat' first | (refine Owe.same ?_; first | refine Owe.o ?_ | refine Owe.mk ?_ ?_) | (refine Fork.same ?_; (first | refine fkD ?_ ?_ | refine fkN ?_ ?_ | refine fkM ?_ ?_) <;> intro h) | refine MvQ.stay ?_)
  refine Ops.cs rfl rfl (CallS.of fn220 rfl ?_)
  (repeat' first | (refine Owe.same ?_; first | refine Owe.o ?_ | refine Owe.mk ?_ ?_) | (refine Fork.same ?_; (first | refine fkD ?_ ?_ | refine fkN ?_ ?_ | refine fkM ?_ ?_) <;> intro h) | refine MvQ.stay ?_)
  refine Sat.lp (fun k : Nat => ⟨[(11, vi .i64 k), (10, vi .i64 l.length), (9, .c (ints l)), (1, .c (.fn 290 [0, 1]))], [(1, .box [int (lastI l k)]), (0, .box [int b])], 2⟩) (fun k => k ≤ l.length ∧ ∀ i, i < k → ascN l b i = 0) (fun k => l.length - k) 0 [] ⟨Nat.zero_le _, fun i hi => by omega⟩ ?_ ?_
  · (refine qis ?_ ?_ <;> (repeat' first | exact rfl | (refine qS ?_; constructor)))
  · intro k hk
    refine Fork.dec (fun hlt => ?_) (fun hlt => ?_)
    · have hlt : k < l.length := by omega
      obtain ⟨last, hla⟩ : ∃ x, x = lastI l k := ⟨_, rfl⟩
      rw [← hla]
      (repeat' first | (refine Owe.same ?_; first | refine Owe.o ?_ | refine Owe.mk ?_ ?_) | (refine Fork.same ?_; (first | refine fkD ?_ ?_ | refine fkN ?_ ?_ | refine fkM ?_ ?_) <;> intro h) | refine MvQ.stay ?_)
      refine Ops.cs rfl rfl (CallS.of fn290 rfl ?_)
      (repeat' first | (refine Owe.same ?_; first | refine Owe.o ?_ | refine Owe.mk ?_ ?_) | (refine Fork.same ?_; (first | refine fkD ?_ ?_ | refine fkN ?_ ?_ | refine fkM ?_ ?_) <;> intro h) | ((first | refine OpsL.same ?_ | refine OpsDL.same ?_); first | refine pK C168 rfl rfl ?_ | refine pK C152 rfl rfl ?_ | refine pK C151 rfl rfl ?_) | refine MvQ.stay ?_)
      · have h : ¬ fstE [unl (0 ≤ l.getD k 0 ∧ l.getD k 0 ≤ b - 1) 6, unl (last < l.getD k 0) 9] = 0 := h
        rw [hla] at h
        have e := eachN_e hlt hk.2 h
        rw [ascE, e] at hq
        subst hq
        (refine rqK rfl ?_; (repeat' first | exact rfl | (refine qS ?_; constructor)))
        rw [hla]; rfl
      · have h : fstE [unl (0 ≤ l.getD k 0 ∧ l.getD k 0 ≤ b - 1) 6, unl (last < l.getD k 0) 9] = 0 := h
        rw [hla] at h
        refine again (k + 1) [] ⟨hlt, succ_all hk.2 h⟩ (by omega) ?_
        (refine qis ?_ ?_ <;> (repeat' first | exact rfl | (refine qS ?_; constructor)))
    · (repeat' first | (refine Owe.same ?_; first | refine Owe.o ?_ | refine Owe.mk ?_ ?_) | (refine Fork.same ?_; (first | refine fkD ?_ ?_ | refine fkN ?_ ?_ | refine fkM ?_ ?_) <;> intro h) | refine MvQ.stay ?_)
      have : k = l.length := by omega
      subst this
      rw [ascE, eachN_z hk.2] at hq
      subst hq
      (refine rqK rfl ?_; (repeat' first | exact rfl | (refine qS ?_; constructor)))
theorem C206 {l : List Int} {b : Int} : (l.length ≤ 1000000 ∧ -1000000 ≤ b ∧ b ≤ 1000000) → PFD Tryz.prog 206 [.c (ints l), vi .i64 b] (vi .i64 (ascE l b).2) := fun h => by
  refine pi1 fn206 ?_
  (repeat' first | (refine Owe.same ?_; first | refine Owe.o ?_ | refine Owe.mk ?_ ?_) | (refine Fork.same ?_; (first | refine fkD ?_ ?_ | refine fkN ?_ ?_ | refine fkM ?_ ?_) <;> intro h) | ((first | refine OpsL.same ?_ | refine OpsDL.same ?_); first | refine pK (C259 h) rfl rfl ?_) | refine MvQ.stay ?_)
  (refine rqK rfl ?_; (repeat' first | exact rfl | (refine qS ?_; constructor)))
def anyN (f : Nat → Bool) : Nat → Bool
  | 0 => false
  | k + 1 => anyN f k || f k
theorem anyN_f {f : Nat → Bool} : ∀ {k : Nat}, anyN f k = false ↔ ∀ i, i < k → f i = false
  | 0 => ⟨fun _ i hi => by omega, fun _ => rfl⟩
  | k + 1 => by
    rw [anyN, Bool.or_eq_false_iff, anyN_f]
    exact ⟨fun h => succ_all h.1 h.2, fun h => ⟨fun i hi => h i (by omega), h k (by omega)⟩⟩
theorem anyN_t {f : Nat → Bool} {k n : Nat} (hk : k < n) (h : f k = true) : anyN f n = true := by
  rcases hb : anyN f n with _ | _
  · rw [anyN_f.1 hb k hk] at h; exact h
  · rfl
def idxN (f : Nat → Bool) : Nat → Nat → Int
  | _, 0 => -1
  | k, m + 1 => if f k = true then k else idxN f (k + 1) m
theorem idxN_from {f : Nat → Bool} {n : Nat} : ∀ {k : Nat}, k ≤ n → (∀ i, i < k → f i = false) → idxN f 0 n = idxN f k (n - k)
  | 0, _, _ => rfl
  | k + 1, hk, h => by
    rw [idxN_from (k := k) (by omega) fun i hi => h i (by omega), show n - k = (n - (k + 1)) + 1 by omega, idxN, if_neg (by rw [h k (by omega)]; decide)]
theorem idxN_e {f : Nat → Bool} {k n : Nat} (hk : k < n) (h : ∀ i, i < k → f i = false) (hx : f k = true) : idxN f 0 n = k := by
  rw [idxN_from (Nat.le_of_lt hk) h, show n - k = (n - k - 1) + 1 by omega, idxN, if_pos hx]
theorem idxN_z {f : Nat → Bool} {n : Nat} (h : ∀ i, i < n → f i = false) : idxN f 0 n = -1 := by
  rw [idxN_from (Nat.le_refl n) h, Nat.sub_self]; rfl
theorem anyN_first {f : Nat → Bool} : ∀ {n : Nat}, anyN f n = true → ∃ k, k < n ∧ (∀ i, i < k → f i = false) ∧ f k = true
  | 0, h => by cases h
  | n + 1, h => by
    rcases hb : anyN f n with _ | _
    · rw [anyN, hb, Bool.false_or] at h; exact ⟨n, Nat.lt_succ_self _, anyN_f.1 hb, h⟩
    · obtain ⟨k, h1, h2⟩ := anyN_first hb; exact ⟨k, by omega, h2⟩
theorem idxN_any {f : Nat → Bool} {n : Nat} : decide (idxN f 0 n ≥ 0) = anyN f n := by
  rcases hb : anyN f n with _ | _
  · rw [idxN_z (anyN_f.1 hb)]; rfl
  · obtain ⟨k, h1, h2, h3⟩ := anyN_first hb
    rw [idxN_e h1 h2 h3]; simp
theorem C222 {g : FuncId} {rows : List (List D)} {l : List Int} {f : Nat → Bool} (hg : ∀ i, i < l.length → PFD Tryz.prog g (vi .i64 (l.getD i 0) :: rows.map fun r => .c (.rp r)) (vbl (f i))) : l.length ≤ 1000000 → PFD Tryz.prog 222 [.c (ints l), .c (.fnR g rows)] (vi .i64 (idxN f 0 l.length)) := fun hl => by
  refine pi1 fn222 ?_
  (repeat' first | (refine Owe.same ?_; first | refine Owe.o ?_ | refine Owe.mk ?_ ?_) | (refine Fork.same ?_; (first | refine fkD ?_ ?_ | refine fkN ?_ ?_ | refine fkM ?_ ?_) <;> intro h) | refine MvQ.stay ?_)
  refine Sat.lp0 (fun k : Nat => [(8, vi .i64 k), (7, vi .i64 l.length), (6, .c (ints l)), (0, .c (ints l)), (1, .c (.fnR g rows))]) (fun k => k ≤ l.length ∧ ∀ i, i < k → f i = false) (fun k => l.length - k) 0 ⟨Nat.zero_le _, fun i hi => by omega⟩ (by ((first | refine qen ?_ | refine qvs ?_ | refine qeq ?_ | refine qst ?_ | refine qv ?_ | refine qc ?_ | refine qe ?_ | refine qcs ?_ | skip); (repeat' first | exact rfl | (refine qS ?_; constructor)))) ?_
  intro k hk
  refine Fork.dec (fun hlt => ?_) (fun hlt => ?_)
  · have hlt : k < l.length := by omega
    (repeat' first | (refine Owe.same ?_; first | refine Owe.o ?_ | refine Owe.mk ?_ ?_) | (refine Fork.same ?_; (first | refine fkD ?_ ?_ | refine fkN ?_ ?_ | refine fkM ?_ ?_) <;> intro h) | ((first | refine OpsL.same ?_ | refine OpsDL.same ?_); first | refine pR (hg k hlt) rfl rfl ?_) | refine MvQ.stay ?_)
    · (refine rqK rfl ?_; (repeat' first | exact rfl | (refine qS ?_; constructor))); rw [idxN_e hlt hk.2 h]
    · exact again0 (k + 1) ⟨hlt, succ_all hk.2 h⟩ (by omega) (by ((first | refine qen ?_ | refine qvs ?_ | refine qeq ?_ | refine qst ?_ | refine qv ?_ | refine qc ?_ | refine qe ?_ | refine qcs ?_ | skip); (repeat' first | exact rfl | (refine qS ?_; constructor))))
  · have : k = l.length := by omega
    subst this
    (repeat' first | (refine Owe.same ?_; first | refine Owe.o ?_ | refine Owe.mk ?_ ?_) | (refine Fork.same ?_; (first | refine fkD ?_ ?_ | refine fkN ?_ ?_ | refine fkM ?_ ?_) <;> intro h) | refine MvQ.stay ?_)
    (refine rqK rfl ?_; (repeat' first | exact rfl | (refine qS ?_; constructor))); rw [idxN_z hk.2]
theorem C158 {g : FuncId} {rows : List (List D)} {l : List Int} {f : Nat → Bool} (hg : ∀ i, i < l.length → PFD Tryz.prog g (vi .i64 (l.getD i 0) :: rows.map fun r => .c (.rp r)) (vbl (f i))) : l.length ≤ 1000000 → PFD Tryz.prog 158 [.c (ints l), .c (.fnR g rows)] (vbl (anyN f l.length)) := fun hl => by
  refine pi1 fn158 ?_
  (repeat' first | (refine Owe.same ?_; first | refine Owe.o ?_ | refine Owe.mk ?_ ?_) | (refine Fork.same ?_; (first | refine fkD ?_ ?_ | refine fkN ?_ ?_ | refine fkM ?_ ?_) <;> intro h) | ((first | refine OpsL.same ?_ | refine OpsDL.same ?_); first | refine pK (C222 hg hl) rfl rfl ?_) | refine MvQ.stay ?_)
  (refine rqK rfl ?_; (repeat' first | exact rfl | (refine qS ?_; constructor)))
  exact idxN_any
theorem C222f {g : FuncId} {l : List Int} {f : Nat → Bool} (hg : ∀ i, i < l.length → PFD Tryz.prog g [vi .i64 (l.getD i 0)] (vbl (f i))) : l.length ≤ 1000000 → PFD Tryz.prog 222 [.c (ints l), .c (.fn g [])] (vi .i64 (idxN f 0 l.length)) := fun hl => by
  refine pi1 fn222 ?_
  (repeat' first | (refine Owe.same ?_; first | refine Owe.o ?_ | refine Owe.mk ?_ ?_) | (refine Fork.same ?_; (first | refine fkD ?_ ?_ | refine fkN ?_ ?_ | refine fkM ?_ ?_) <;> intro h) | refine MvQ.stay ?_)
  refine Sat.lp0 (fun k : Nat => [(8, vi .i64 k), (7, vi .i64 l.length), (6, .c (ints l)), (0, .c (ints l)), (1, .c (.fn g []))]) (fun k => k ≤ l.length ∧ ∀ i, i < k → f i = false) (fun k => l.length - k) 0 ⟨Nat.zero_le _, fun i hi => by omega⟩ (by ((first | refine qen ?_ | refine qvs ?_ | refine qeq ?_ | refine qst ?_ | refine qv ?_ | refine qc ?_ | refine qe ?_ | refine qcs ?_ | skip); (repeat' first | exact rfl | (refine qS ?_; constructor)))) ?_
  intro k hk
  refine Fork.dec (fun hlt => ?_) (fun hlt => ?_)
  · have hlt : k < l.length := by omega
    (repeat' first | (refine Owe.same ?_; first | refine Owe.o ?_ | refine Owe.mk ?_ ?_) | (refine Fork.same ?_; (first | refine fkD ?_ ?_ | refine fkN ?_ ?_ | refine fkM ?_ ?_) <;> intro h) | ((first | refine OpsL.same ?_ | refine OpsDL.same ?_); first | refine pK (hg k hlt) rfl rfl ?_) | refine MvQ.stay ?_)
    · (refine rqK rfl ?_; (repeat' first | exact rfl | (refine qS ?_; constructor))); rw [idxN_e hlt hk.2 h]
    · exact again0 (k + 1) ⟨hlt, succ_all hk.2 h⟩ (by omega) (by ((first | refine qen ?_ | refine qvs ?_ | refine qeq ?_ | refine qst ?_ | refine qv ?_ | refine qc ?_ | refine qe ?_ | refine qcs ?_ | skip); (repeat' first | exact rfl | (refine qS ?_; constructor))))
  · have : k = l.length := by omega
    subst this
    (repeat' first | (refine Owe.same ?_; first | refine Owe.o ?_ | refine Owe.mk ?_ ?_) | (refine Fork.same ?_; (first | refine fkD ?_ ?_ | refine fkN ?_ ?_ | refine fkM ?_ ?_) <;> intro h) | refine MvQ.stay ?_)
    (refine rqK rfl ?_; (repeat' first | exact rfl | (refine qS ?_; constructor))); rw [idxN_z hk.2]
theorem C158f {g : FuncId} {l : List Int} {f : Nat → Bool} (hg : ∀ i, i < l.length → PFD Tryz.prog g [vi .i64 (l.getD i 0)] (vbl (f i))) : l.length ≤ 1000000 → PFD Tryz.prog 158 [.c (ints l), .c (.fn g [])] (vbl (anyN f l.length)) := fun hl => by
  refine pi1 fn158 ?_
  (repeat' first | (refine Owe.same ?_; first | refine Owe.o ?_ | refine Owe.mk ?_ ?_) | (refine Fork.same ?_; (first | refine fkD ?_ ?_ | refine fkN ?_ ?_ | refine fkM ?_ ?_) <;> intro h) | ((first | refine OpsL.same ?_ | refine OpsDL.same ?_); first | refine pK (C222f hg hl) rfl rfl ?_) | refine MvQ.stay ?_)
  (refine rqK rfl ?_; (repeat' first | exact rfl | (refine qS ?_; constructor)))
  exact idxN_any
theorem C222b {g : FuncId} {ds : List D} {l : List Int} {f : Nat → Bool} (hg : ∀ i, i < l.length → PFD Tryz.prog g [.agg (ds.map .d), vi .i64 (l.getD i 0)] (vbl (f i))) : l.length ≤ 1000000 → PFD Tryz.prog 222 [.c (ints l), .c (.fnB g ds)] (vi .i64 (idxN f 0 l.length)) := fun hl => by
  refine pi1 fn222 ?_
  (repeat' first | (refine Owe.same ?_; first | refine Owe.o ?_ | refine Owe.mk ?_ ?_) | (refine Fork.same ?_; (first | refine fkD ?_ ?_ | refine fkN ?_ ?_ | refine fkM ?_ ?_) <;> intro h) | refine MvQ.stay ?_)
  refine Sat.lp0 (fun k : Nat => [(8, vi .i64 k), (7, vi .i64 l.length), (6, .c (ints l)), (0, .c (ints l)), (1, .c (.fnB g ds))]) (fun k => k ≤ l.length ∧ ∀ i, i < k → f i = false) (fun k => l.length - k) 0 ⟨Nat.zero_le _, fun i hi => by omega⟩ (by ((first | refine qen ?_ | refine qvs ?_ | refine qeq ?_ | refine qst ?_ | refine qv ?_ | refine qc ?_ | refine qe ?_ | refine qcs ?_ | skip); (repeat' first | exact rfl | (refine qS ?_; constructor)))) ?_
  intro k hk
  refine Fork.dec (fun hlt => ?_) (fun hlt => ?_)
  · have hlt : k < l.length := by omega
    (repeat' first | (refine Owe.same ?_; first | refine Owe.o ?_ | refine Owe.mk ?_ ?_) | (refine Fork.same ?_; (first | refine fkD ?_ ?_ | refine fkN ?_ ?_ | refine fkM ?_ ?_) <;> intro h) | ((first | refine OpsL.same ?_ | refine OpsDL.same ?_); first | refine pB (hg k hlt) rfl rfl ?_) | refine MvQ.stay ?_)
    · (refine rqK rfl ?_; (repeat' first | exact rfl | (refine qS ?_; constructor))); rw [idxN_e hlt hk.2 h]
    · exact again0 (k + 1) ⟨hlt, succ_all hk.2 h⟩ (by omega) (by ((first | refine qen ?_ | refine qvs ?_ | refine qeq ?_ | refine qst ?_ | refine qv ?_ | refine qc ?_ | refine qe ?_ | refine qcs ?_ | skip); (repeat' first | exact rfl | (refine qS ?_; constructor))))
  · have : k = l.length := by omega
    subst this
    (repeat' first | (refine Owe.same ?_; first | refine Owe.o ?_ | refine Owe.mk ?_ ?_) | (refine Fork.same ?_; (first | refine fkD ?_ ?_ | refine fkN ?_ ?_ | refine fkM ?_ ?_) <;> intro h) | refine MvQ.stay ?_)
    (refine rqK rfl ?_; (repeat' first | exact rfl | (refine qS ?_; constructor))); rw [idxN_z hk.2]
theorem C158b {g : FuncId} {ds : List D} {l : List Int} {f : Nat → Bool} (hg : ∀ i, i < l.length → PFD Tryz.prog g [.agg (ds.map .d), vi .i64 (l.getD i 0)] (vbl (f i))) : l.length ≤ 1000000 → PFD Tryz.prog 158 [.c (ints l), .c (.fnB g ds)] (vbl (anyN f l.length)) := fun hl => by
  refine pi1 fn158 ?_
  (repeat' first | (refine Owe.same ?_; first | refine Owe.o ?_ | refine Owe.mk ?_ ?_) | (refine Fork.same ?_; (first | refine fkD ?_ ?_ | refine fkN ?_ ?_ | refine fkM ?_ ?_) <;> intro h) | ((first | refine OpsL.same ?_ | refine OpsDL.same ?_); first | refine pK (C222b hg hl) rfl rfl ?_) | refine MvQ.stay ?_)
  (refine rqK rfl ?_; (repeat' first | exact rfl | (refine qS ?_; constructor)))
  exact idxN_any
theorem anyN_mem {p : Int → Bool} {l : List Int} : anyN (fun i => p (l.getD i 0)) l.length = l.any p := by
  rw [Bool.eq_iff_iff, List.any_eq_true]
  constructor
  · intro h
    obtain ⟨k, hk, _, h3⟩ := anyN_first h
    refine ⟨l.getD k 0, ?_, h3⟩
    rw [List.getD_eq_getElem?_getD, List.getElem?_eq_getElem hk]; exact List.getElem_mem _
  · rintro ⟨x, hx, hp⟩
    obtain ⟨k, hk, rfl⟩ := List.getElem_of_mem hx
    refine anyN_t hk ?_
    rw [List.getD_eq_getElem?_getD, List.getElem?_eq_getElem hk]; exact hp
abbrev oddI (l : List Int) : Bool := l.any fun n => !decide (isN n)
theorem C230 {n : Int} : PFD Tryz.prog 230 [vi .i64 n] (vbl (!decide (isN n))) := by
  refine pi1 fn230 ?_
  (repeat' first | (refine Owe.same ?_; first | refine Owe.o ?_ | refine Owe.mk ?_ ?_) | (refine Fork.same ?_; (first | refine fkD ?_ ?_ | refine fkN ?_ ?_ | refine fkM ?_ ?_) <;> intro h) | ((first | refine OpsL.same ?_ | refine OpsDL.same ?_); first | refine pK C154 rfl rfl ?_) | refine MvQ.stay ?_)
  (refine rqK rfl ?_; (repeat' first | exact rfl | (refine qS ?_; constructor)))
theorem C203 {n : Int} : PFD Tryz.prog 203 [vi .i64 n] (vbl (!decide (isN n))) := by
  refine pi1 fn203 ?_
  (repeat' first | (refine Owe.same ?_; first | refine Owe.o ?_ | refine Owe.mk ?_ ?_) | (refine Fork.same ?_; (first | refine fkD ?_ ?_ | refine fkN ?_ ?_ | refine fkM ?_ ?_) <;> intro h) | ((first | refine OpsL.same ?_ | refine OpsDL.same ?_); first | refine pK C154 rfl rfl ?_) | refine MvQ.stay ?_)
  (refine rqK rfl ?_; (repeat' first | exact rfl | (refine qS ?_; constructor)))
theorem C158o {l : List Int} : l.length ≤ 1000000 → PFD Tryz.prog 158 [.c (ints l), .c (.fn 230 [])] (vbl (oddI l)) := fun hl => by
  have := C158f (l := l) (fun i hi => C230 (n := l.getD i 0)) hl
  rwa [anyN_mem (p := fun n => !decide (isN n))] at this
theorem C158o' {l : List Int} : l.length ≤ 1000000 → PFD Tryz.prog 158 [.c (ints l), .c (.fn 203 [])] (vbl (oddI l)) := fun hl => by
  have := C158f (l := l) (fun i hi => C203 (n := l.getD i 0)) hl
  rwa [anyN_mem (p := fun n => !decide (isN n))] at this
abbrev nmI (s : ByteArray) (i : Nat) : Int := ((s.data.toList.getD i 0).toNat : Int)
abbrev chP (c : Int) (i : Nat) : Prop := ((97 ≤ c ∧ c ≤ 122) ∨ (65 ≤ c ∧ c ≤ 90)) ∨ ((i : Int) ≠ 0 ∧ (c = 45 ∨ (48 ≤ c ∧ c ≤ 57)))
abbrev nmP (s : ByteArray) : Prop := (∀ i, i < s.size → chP (nmI s i) i) ∧ 1 ≤ (s.size : Int) ∧ (s.size : Int) ≤ 12
abbrev str (s : ByteArray) : C := .d (.v (.string s))
theorem C204 {s : ByteArray} : s.size ≤ 1000000 → PFD Tryz.prog 204 [.c (str s)] (vbl (decide (nmP s))) := fun hs => by
  refine pi1 fn204 ?_
  (repeat' first | (refine Owe.same ?_; first | refine Owe.o ?_ | refine Owe.mk ?_ ?_) | (refine Fork.same ?_; (first | refine fkD ?_ ?_ | refine fkN ?_ ?_ | refine fkM ?_ ?_) <;> intro h) | refine MvQ.stay ?_)
  refine Sat.lp0 (fun k : Nat => [(8, vi .i64 k), (7, vi .i64 s.size), (0, .c (str s))]) (fun k => k ≤ s.size ∧ ∀ i, i < k → chP (nmI s i) i) (fun k => s.size - k) 0 ⟨Nat.zero_le _, fun i hi => by omega⟩ (by ((first | refine qen ?_ | refine qvs ?_ | refine qeq ?_ | refine qst ?_ | refine qv ?_ | refine qc ?_ | refine qe ?_ | refine qcs ?_ | skip); (repeat' first | exact rfl | (refine qS ?_; constructor)))) ?_
  intro k hk
  refine Fork.dec (fun hlt => ?_) (fun hlt => ?_)
  · have hlt : k < s.size := by omega
    have cont : chP (nmI s k) k → ∀ i, i < k + 1 → chP (nmI s i) i := fun h => succ_all hk.2 h
    have stop : ¬ chP (nmI s k) k → decide (nmP s) = false := fun h => by
      rw [decide_eq_false_iff_not]; exact fun hh => h (hh.1 k hlt)
    (repeat' first | (refine Owe.same ?_; first | refine Owe.o ?_ | refine Owe.mk ?_ ?_) | (refine Fork.same ?_; (first | refine fkD ?_ ?_ | refine fkN ?_ ?_ | refine fkM ?_ ?_) <;> intro h) | refine MvQ.stay ?_)
    all_goals simp only [Int.toNat_natCast] at *
    all_goals first
      | refine again0 (k + 1) ⟨hlt, cont (by simp only [chP, nmI]; omega)⟩ (by omega) (by ((first | refine qen ?_ | refine qvs ?_ | refine qeq ?_ | refine qst ?_ | refine qv ?_ | refine qc ?_ | refine qe ?_ | refine qcs ?_ | skip); (repeat' first | exact rfl | (refine qS ?_; constructor))))
      | (refine rqK rfl ?_; (repeat' first | exact rfl | (refine qS ?_; constructor))); exact stop (by simp only [chP, nmI]; omega)
  · have : k = s.size := by omega
    subst this
    (repeat' first | (refine Owe.same ?_; first | refine Owe.o ?_ | refine Owe.mk ?_ ?_) | (refine Fork.same ?_; (first | refine fkD ?_ ?_ | refine fkN ?_ ?_ | refine fkM ?_ ?_) <;> intro h) | ((first | refine OpsL.same ?_ | refine OpsDL.same ?_); first | refine pK C168 rfl rfl ?_) | refine MvQ.stay ?_)
    (refine rqK rfl ?_; (repeat' first | exact rfl | (refine qS ?_; constructor)))
    exact decide_eq_decide.2 ⟨fun h => ⟨hk.2, h⟩, fun h => h.2⟩
theorem C117 {s : ByteArray} : s.size ≤ 1000000 → PFD Tryz.prog 117 [.c (str s)] (vbl (decide (nmP s))) := fun hs => by
  refine pi1 fn117 ?_
  by_cases hz : 1 ≤ (s.size : Int) ∧ (s.size : Int) ≤ 12
  · (repeat' first | (refine Owe.same ?_; first | refine Owe.o ?_ | refine Owe.mk ?_ ?_) | (refine Fork.same ?_; (first | refine fkY ?_ | refine fkF ?_ | ((first | refine fkD ?_ ?_ | refine fkN ?_ ?_ | refine fkM ?_ ?_) <;> intro h))) | ((first | refine OpsL.same ?_ | refine OpsDL.same ?_); first | refine oK C168 rfl rfl rfl ?_) | refine MvQ.stay ?_)
    refine Sat.lp0 (fun k : Nat => [(3, vi .i64 k), (0, .c (str s))]) (fun k => k ≤ s.size ∧ ∀ i, i < k → chP (nmI s i) i) (fun k => s.size - k) 0 ⟨Nat.zero_le _, fun i hi => by omega⟩ (by ((first | refine qen ?_ | refine qvs ?_ | refine qeq ?_ | refine qst ?_ | refine qv ?_ | refine qc ?_ | refine qe ?_ | refine qcs ?_ | skip); (repeat' first | exact rfl | (refine qS ?_; constructor)))) ?_
    intro k hk
    refine Fork.dec (fun hlt => ?_) (fun hlt => ?_)
    · have hlt : k < s.size := by omega
      have cont : chP (nmI s k) k → ∀ i, i < k + 1 → chP (nmI s i) i := fun h => succ_all hk.2 h
      have stop : ¬ chP (nmI s k) k → decide (nmP s) = false := fun h => by
        rw [decide_eq_false_iff_not]; exact fun hh => h (hh.1 k hlt)
      (repeat' first | (refine Owe.same ?_; first | refine Owe.o ?_ | refine Owe.mk ?_ ?_) | (refine Fork.same ?_; (first | refine fkD ?_ ?_ | refine fkN ?_ ?_ | refine fkM ?_ ?_) <;> intro h) | refine MvQ.stay ?_)
      all_goals simp only [Int.toNat_natCast] at *
      all_goals first
        | refine again0 (k + 1) ⟨hlt, cont (by simp only [chP, nmI]; omega)⟩ (by omega) (by ((first | refine qen ?_ | refine qvs ?_ | refine qeq ?_ | refine qst ?_ | refine qv ?_ | refine qc ?_ | refine qe ?_ | refine qcs ?_ | skip); (repeat' first | exact rfl | (refine qS ?_; constructor))))
        | (refine rqK rfl ?_; (repeat' first | exact rfl | (refine qS ?_; constructor))); exact stop (by simp only [chP, nmI]; omega)
    · have : k = s.size := by omega
      subst this
      (repeat' first | (refine Owe.same ?_; first | refine Owe.o ?_ | refine Owe.mk ?_ ?_) | (refine Fork.same ?_; (first | refine fkD ?_ ?_ | refine fkN ?_ ?_ | refine fkM ?_ ?_) <;> intro h) | refine MvQ.stay ?_)
      (refine rqK rfl ?_; (repeat' first | exact rfl | (refine qS ?_; constructor)))
      exact decide_eq_true ⟨hk.2, hz⟩
  · have hf : decide (nmP s) = false := decide_eq_false fun h => hz h.2
    (repeat' first | (refine Owe.same ?_; first | refine Owe.o ?_ | refine Owe.mk ?_ ?_) | (refine Fork.same ?_; (first | refine fkY ?_ | refine fkF ?_ | ((first | refine fkD ?_ ?_ | refine fkN ?_ ?_ | refine fkM ?_ ?_) <;> intro h))) | ((first | refine OpsL.same ?_ | refine OpsDL.same ?_); first | refine oK C168 rfl rfl rfl ?_) | refine MvQ.stay ?_)
    all_goals first | ((refine rqK rfl ?_; (repeat' first | exact rfl | (refine qS ?_; constructor))); exact hf.symm) | ((refine rqK rfl ?_; (repeat' first | exact rfl | (refine qS ?_; constructor))); exact hf)
structure Tk where
  n : ByteArray
  p : Int
  d : Int
  w : Int
  o : Int
  v : Int
  lo : Int
  hi : Int
  a : List Int
abbrev intsD (l : List Int) : D := .sl 1 l.length fun i => r1 (l.getD i 0)
abbrev tkr (t : Tk) : List D := [.v (.string t.n), dI t.p, dI t.d, dI t.w, dI t.o, dI t.v, dI t.lo, dI t.hi, intsD t.a]
abbrev tk0 : Tk := ⟨ByteArray.empty, 0, 0, 0, 0, 0, 0, 0, []⟩
abbrev tkv (t : Tk) : V := .agg [str t.n, int t.p, int t.d, int t.w, int t.o, int t.v, int t.lo, int t.hi, ints t.a]
abbrev tks (l : List Tk) : C := slv 9 tkr tk0 l
abbrev tksD (l : List Tk) : D := .sl 9 l.length fun i => tkr (l.getD i tk0)
theorem C202 {t : Tk} {s : ByteArray} {r : List D} : PFD Tryz.prog 202 [tkv t, .c (.rp (.v (.string s) :: r))] (vbl (decide (t.n.data.toList = s.data.toList))) := by
  refine pi1 fn202 ?_
  (repeat' first | (refine Owe.same ?_; first | refine Owe.o ?_ | refine Owe.mk ?_ ?_) | (refine Fork.same ?_; (first | refine fkD ?_ ?_ | refine fkN ?_ ?_ | refine fkM ?_ ?_) <;> intro h) | refine MvQ.stay ?_)
  (refine rqK rfl ?_; (repeat' first | exact rfl | (refine qS ?_; constructor)))
theorem C258 {g : FuncId} {rows : List (List D)} {l : List Tk} {n : Nat} {f : Nat → Bool} (hg : ∀ i, i < n → PFD Tryz.prog g (tkv (l.getD i tk0) :: rows.map fun r => .c (.rp r)) (vbl (f i))) : n ≤ 1000000 → PFD Tryz.prog 258 [.c (.d (.sl 9 n fun i => tkr (l.getD i tk0))), .c (.fnR g rows)] (vi .i64 (idxN f 0 n)) := fun hl => by
  refine pi1 fn258 ?_
  (repeat' first | (refine Owe.same ?_; first | refine Owe.o ?_ | refine Owe.mk ?_ ?_) | (refine Fork.same ?_; (first | refine fkD ?_ ?_ | refine fkN ?_ ?_ | refine fkM ?_ ?_) <;> intro h) | refine MvQ.stay ?_)
  refine Sat.lp0 (fun k : Nat => [(8, vi .i64 k), (7, vi .i64 n), (6, .c (.d (.sl 9 n fun i => tkr (l.getD i tk0)))), (0, .c (.d (.sl 9 n fun i => tkr (l.getD i tk0)))), (1, .c (.fnR g rows))]) (fun k => k ≤ n ∧ ∀ i, i < k → f i = false) (fun k => n - k) 0 ⟨Nat.zero_le _, fun i hi => by omega⟩ (by ((first | refine qen ?_ | refine qvs ?_ | refine qeq ?_ | refine qst ?_ | refine qv ?_ | refine qc ?_ | refine qe ?_ | refine qcs ?_ | skip); (repeat' first | exact rfl | (refine qS ?_; constructor)))) ?_
  intro k hk
  refine Fork.dec (fun hlt => ?_) (fun hlt => ?_)
  · have hlt : k < n := by omega
    (repeat' first | (refine Owe.same ?_; first | refine Owe.o ?_ | refine Owe.mk ?_ ?_) | (refine Fork.same ?_; (first | refine fkD ?_ ?_ | refine fkN ?_ ?_ | refine fkM ?_ ?_) <;> intro h) | ((first | refine OpsL.same ?_ | refine OpsDL.same ?_); first | refine pR (hg k hlt) rfl rfl ?_) | refine MvQ.stay ?_)
    · (refine rqK rfl ?_; (repeat' first | exact rfl | (refine qS ?_; constructor))); rw [idxN_e hlt hk.2 h]
    · exact again0 (k + 1) ⟨hlt, succ_all hk.2 h⟩ (by omega) (by ((first | refine qen ?_ | refine qvs ?_ | refine qeq ?_ | refine qst ?_ | refine qv ?_ | refine qc ?_ | refine qe ?_ | refine qcs ?_ | skip); (repeat' first | exact rfl | (refine qS ?_; constructor))))
  · have : k = n := by omega
    subst this
    (repeat' first | (refine Owe.same ?_; first | refine Owe.o ?_ | refine Owe.mk ?_ ?_) | (refine Fork.same ?_; (first | refine fkD ?_ ?_ | refine fkN ?_ ?_ | refine fkM ?_ ?_) <;> intro h) | refine MvQ.stay ?_)
    (refine rqK rfl ?_; (repeat' first | exact rfl | (refine qS ?_; constructor))); rw [idxN_z hk.2]
theorem C201 {g : FuncId} {rows : List (List D)} {l : List Tk} {n : Nat} {f : Nat → Bool} (hg : ∀ i, i < n → PFD Tryz.prog g (tkv (l.getD i tk0) :: rows.map fun r => .c (.rp r)) (vbl (f i))) : n ≤ 1000000 → PFD Tryz.prog 201 [.c (.d (.sl 9 n fun i => tkr (l.getD i tk0))), .c (.fnR g rows)] (vbl (anyN f n)) := fun hl => by
  refine pi1 fn201 ?_
  (repeat' first | (refine Owe.same ?_; first | refine Owe.o ?_ | refine Owe.mk ?_ ?_) | (refine Fork.same ?_; (first | refine fkD ?_ ?_ | refine fkN ?_ ?_ | refine fkM ?_ ?_) <;> intro h) | ((first | refine OpsL.same ?_ | refine OpsDL.same ?_); first | refine pK (C258 hg hl) rfl rfl ?_) | refine MvQ.stay ?_)
  (refine rqK rfl ?_; (repeat' first | exact rfl | (refine qS ?_; constructor)))
  exact idxN_any
theorem C199 {g : FuncId} {rows : List (List D)} {l : List Tk} {f : Nat → Int} (hg : ∀ i, i < l.length → PFD Tryz.prog g (vi .i64 i :: tkv (l.getD i tk0) :: rows.map fun r => .c (.rp r)) (vi .i64 (f i))) : l.length ≤ 1000000 → PFD Tryz.prog 199 [.c (tks l), .c (.fnR g rows)] (.tup [vi .i64 (eachN f 0 l.length).1, vi .i64 (eachN f 0 l.length).2]) := fun hl => by
  refine pi2 fn199 ?_
  (repeat' first | (refine Owe.same ?_; first | refine Owe.o ?_ | refine Owe.mk ?_ ?_) | (refine Fork.same ?_; (first | refine fkD ?_ ?_ | refine fkN ?_ ?_ | refine fkM ?_ ?_) <;> intro h) | refine MvQ.stay ?_)
  refine Sat.lp0 (fun k : Nat => [(11, vi .i64 k), (10, vi .i64 l.length), (9, .c (tks l)), (1, .c (.fnR g rows))]) (fun k => k ≤ l.length ∧ ∀ i, i < k → f i = 0) (fun k => l.length - k) 0 ⟨Nat.zero_le _, fun i hi => by omega⟩ (by ((first | refine qen ?_ | refine qvs ?_ | refine qeq ?_ | refine qst ?_ | refine qv ?_ | refine qc ?_ | refine qe ?_ | refine qcs ?_ | skip); (repeat' first | exact rfl | (refine qS ?_; constructor)))) ?_
  intro k hk
  refine Fork.dec (fun hlt => ?_) (fun hlt => ?_)
  · have hlt : k < l.length := by omega
    (repeat' first | (refine Owe.same ?_; first | refine Owe.o ?_ | refine Owe.mk ?_ ?_) | (refine Fork.same ?_; (first | refine fkD ?_ ?_ | refine fkN ?_ ?_ | refine fkM ?_ ?_) <;> intro h) | ((first | refine OpsL.same ?_ | refine OpsDL.same ?_); first | refine pR (hg k hlt) rfl rfl ?_) | refine MvQ.stay ?_)
    · have e := eachN_e hlt hk.2 h
      (refine rqK rfl ?_; (repeat' first | exact rfl | (refine qS ?_; constructor))) <;> rw [e]
    · exact again0 (k + 1) ⟨hlt, succ_all hk.2 h⟩ (by omega) (by ((first | refine qen ?_ | refine qvs ?_ | refine qeq ?_ | refine qst ?_ | refine qv ?_ | refine qc ?_ | refine qe ?_ | refine qcs ?_ | skip); (repeat' first | exact rfl | (refine qS ?_; constructor))))
  · have : k = l.length := by omega
    subst this
    have e := eachN_z hk.2
    (repeat' first | (refine Owe.same ?_; first | refine Owe.o ?_ | refine Owe.mk ?_ ?_) | (refine Fork.same ?_; (first | refine fkD ?_ ?_ | refine fkN ?_ ?_ | refine fkM ?_ ?_) <;> intro h) | refine MvQ.stay ?_)
    (refine rqK rfl ?_; (repeat' first | exact rfl | (refine qS ?_; constructor))) <;> rw [e]
abbrev knB (l : List Tk) (k : Nat) (s : ByteArray) : Bool := anyN (fun i => decide ((l.getD i tk0).n.data.toList = s.data.toList)) k
abbrev tkF (l : List Tk) (k : Nat) (t : Tk) : Int := fstE [unl (nmP t.n) 4, unb (!knB l k t.n) 5, unb (decide (0 ≤ t.p ∧ t.p ≤ 4) && !oddI [t.d, t.w, t.o, t.v]) 2, tksE t.lo t.hi]
def tkE (l : List Tk) (k : Nat) : Int := if tkF l k (l.getD k tk0) = 0 then (ascE (l.getD k tk0).a k).2 else tkF l k (l.getD k tk0)
abbrev TkSm (l : List Tk) : Prop := ∀ i, i < l.length → (l.getD i tk0).n.size ≤ 1000000 ∧ (l.getD i tk0).a.length ≤ 1000000
theorem C200 {l : List Tk} {k : Nat} {r : List D} : (k < l.length ∧ l.length ≤ 1000000 ∧ TkSm l) → PFD Tryz.prog 200 [vi .i64 k, tkv (l.getD k tk0), .c (.rp (tksD l :: r))] (vi .i64 (tkE l k)) := fun ⟨hk, hl, hs⟩ => by
  obtain ⟨s1, s2⟩ := hs k hk
  obtain ⟨q, hq⟩ : ∃ q, q = tkE l k := ⟨_, rfl⟩
  have c1 := C201 (g := 202) (rows := [tkr (l.getD k tk0)]) (l := l) (n := k) (fun i hi => C202 (t := l.getD i tk0) (s := (l.getD k tk0).n)) (by omega)
  rw [← hq]
  rw [tkE] at hq
  obtain ⟨t, ht⟩ : ∃ t, t = l.getD k tk0 := ⟨_, rfl⟩
  rw [← ht] at s1 s2 hq c1 ⊢
  have c2 := C158o' (l := [t.d, t.w, t.o, t.v]) (by simp)
  have c3 := C206 (l := t.a) (b := k) ⟨s2, by omega⟩
  refine pi1 fn200 ?_
  (repeat' first | (refine Owe.same ?_; first | refine Owe.o ?_ | refine Owe.mk ?_ ?_) | (refine Fork.same ?_; (first | refine fkD ?_ ?_ | refine fkN ?_ ?_ | refine fkM ?_ ?_) <;> intro h) | ((first | refine OpsL.same ?_ | refine OpsDL.same ?_); first | refine pK c1 rfl rfl ?_ | refine pK c2 rfl rfl ?_ | refine pK (C204 s1) rfl rfl ?_ | refine pK C152 rfl rfl ?_ | refine pK C168 rfl rfl ?_ | refine pK C205 rfl rfl ?_ | refine pK C151 rfl rfl ?_ | refine pK c3 rfl rfl ?_) | refine MvQ.stay ?_)
  · rename_i hp
    have e : tkF l k t = fstE [unl (nmP t.n) 4, unb (!knB l k t.n) 5, unb (!oddI [t.d, t.w, t.o, t.v]) 2, tksE t.lo t.hi] := by rw [tkF, decide_eq_true hp, Bool.true_and]
    have h : ¬ fstE [unl (nmP t.n) 4, unb (!knB l k t.n) 5, unb (!oddI [t.d, t.w, t.o, t.v]) 2, tksE t.lo t.hi] = 0 := h
    rw [e, if_neg h] at hq
    (refine rqK rfl ?_; (repeat' first | exact rfl | (refine qS ?_; constructor))); exact hq.symm
  · rename_i hp
    have e : tkF l k t = fstE [unl (nmP t.n) 4, unb (!knB l k t.n) 5, unb (!oddI [t.d, t.w, t.o, t.v]) 2, tksE t.lo t.hi] := by rw [tkF, decide_eq_true hp, Bool.true_and]
    have h : fstE [unl (nmP t.n) 4, unb (!knB l k t.n) 5, unb (!oddI [t.d, t.w, t.o, t.v]) 2, tksE t.lo t.hi] = 0 := h
    rw [e, if_pos h] at hq
    (repeat' first | (refine Owe.same ?_; first | refine Owe.o ?_ | refine Owe.mk ?_ ?_) | (refine Fork.same ?_; (first | refine fkD ?_ ?_ | refine fkN ?_ ?_ | refine fkM ?_ ?_) <;> intro h) | refine MvQ.stay ?_)
    (refine rqK rfl ?_; (repeat' first | exact rfl | (refine qS ?_; constructor))); exact hq.symm
  · rename_i hp
    have e : tkF l k t = fstE [unl (nmP t.n) 4, unb (!knB l k t.n) 5, unb false 2, tksE t.lo t.hi] := by rw [tkF, decide_eq_false hp, Bool.false_and]
    have h : ¬ fstE [unl (nmP t.n) 4, unb (!knB l k t.n) 5, unb false 2, tksE t.lo t.hi] = 0 := h
    rw [e, if_neg h] at hq
    (refine rqK rfl ?_; (repeat' first | exact rfl | (refine qS ?_; constructor))); exact hq.symm
  · rename_i hp
    have e : tkF l k t = fstE [unl (nmP t.n) 4, unb (!knB l k t.n) 5, unb false 2, tksE t.lo t.hi] := by rw [tkF, decide_eq_false hp, Bool.false_and]
    have h : fstE [unl (nmP t.n) 4, unb (!knB l k t.n) 5, unb false 2, tksE t.lo t.hi] = 0 := h
    rw [e, if_pos h] at hq
    (repeat' first | (refine Owe.same ?_; first | refine Owe.o ?_ | refine Owe.mk ?_ ?_) | (refine Fork.same ?_; (first | refine fkD ?_ ?_ | refine fkN ?_ ?_ | refine fkM ?_ ?_) <;> intro h) | refine MvQ.stay ?_)
    (refine rqK rfl ?_; (repeat' first | exact rfl | (refine qS ?_; constructor))); exact hq.symm
def tsE (l : List Tk) : Int × Int := if 6 < (l.length : Int) then (0, 8) else eachN (tkE l) 0 l.length
theorem C113 {l : List Tk} : (l.length ≤ 1000000 ∧ TkSm l) → PFD Tryz.prog 113 [.c (tks l)] (.tup [vi .i64 (tsE l).1, vi .i64 (tsE l).2]) := fun ⟨hl, hs⟩ => by
  obtain ⟨q, hq⟩ : ∃ q, q = tsE l := ⟨_, rfl⟩
  rw [← hq]
  rw [tsE] at hq
  have c1 := C199 (g := 200) (rows := [[tksD l]]) (fun i hi => C200 (r := []) ⟨hi, hl, hs⟩) hl
  refine pi2 fn113 ?_
  (repeat' first | (refine Owe.same ?_; first | refine Owe.o ?_ | refine Owe.mk ?_ ?_) | (refine Fork.same ?_; (first | refine fkD ?_ ?_ | refine fkN ?_ ?_ | refine fkM ?_ ?_) <;> intro h) | ((first | refine OpsL.same ?_ | refine OpsDL.same ?_); first | refine pK c1 rfl rfl ?_) | refine MvQ.stay ?_)
  · rw [if_pos h] at hq; subst hq; (refine rqK rfl ?_; (repeat' first | exact rfl | (refine qS ?_; constructor)))
  · rw [if_neg h] at hq; subst hq; (refine rqK rfl ?_; (repeat' first | exact rfl | (refine qS ?_; constructor)))
end Go.Pw
set_option linter.unusedSimpArgs false
set_option linter.unusedVariables false
set_option maxHeartbeats 2000000
namespace Go.Pw
set_option maxRecDepth 2000
open Go Go.Proofs A1 A2 A3 A4
structure Si where
  tk : List Tk
  tr : List (List Int)
  ho : List Int
  ti : List (Int × Int × Int)
  idle : Int
  swim : Int
  res : Int
  fin : Int
structure St8 where
  p : Int
  t : Int
  w : Int
  o : Int
  d : List Int
abbrev rwsD (l : List (List Int)) : D := .sl 1 l.length fun i => [intsD (l.getD i [])]
abbrev trsD (l : List (Int × Int × Int)) : D := .sl 3 l.length fun i => r3 (l.getD i (0, 0, 0))
abbrev siD (s : Si) : List D := [tksD s.tk, rwsD s.tr, intsD s.ho, trsD s.ti, dI s.idle, dI s.swim, dI s.res, dI s.fin]
abbrev siC (s : Si) : List C := [.d (tksD s.tk), .d (rwsD s.tr), ints s.ho, trs s.ti, int s.idle, int s.swim, int s.res, int s.fin]
abbrev siv (s : Si) : V := .agg (siC s)
abbrev stD (s : St8) : List D := [dI s.p, dI s.t, dI s.w, dI s.o, intsD s.d]
abbrev stC8 (s : St8) : List C := [int s.p, int s.t, int s.w, int s.o, ints s.d]
abbrev stv (s : St8) : V := .agg (stC8 s)
abbrev hoE (s : Si) : Int := fstE [unl ((s.ho.length : Int) > 0) 10, unl ((s.ho.length : Int) ≤ 5) 8, unl ((s.tr.length : Int) = s.ho.length) 10]
abbrev hmB (s : Si) (i : Nat) : Bool := !oddI (s.tr.getD i []) && (decide (((s.tr.getD i []).length : Int) ≤ i) || decide ((s.tr.getD i []).getD i 0 = 0))
abbrev hmN (s : Si) (i : Nat) : Int := fstE [unl (isN (s.ho.getD i 0)) 2, unl (((s.tr.getD i []).length : Int) = s.ho.length) 10, unb (hmB s i) 2]
abbrev plN (s : Si) (i : Nat) : Int := unl ((s.tk.getD i tk0).p < s.ho.length) 6
abbrev lastT (s : Si) (k : Nat) : Int := if k = 0 then -1 else (s.ti.getD (k - 1) (0, 0, 0)).2.1
abbrev tiF (x : Int × Int × Int) (last : Int) : Int := fstE [unl ((isT x.1 ∧ isT x.2.1) ∧ isN x.2.2) 2, unl (x.1 ≤ x.2.1 ∧ last < x.1) 9]
abbrev tiN (s : Si) (i : Nat) : Int := tiF (s.ti.getD i (0, 0, 0)) (lastT s i)
abbrev enE (s : Si) : Int := unl (((isN s.idle ∧ isN s.swim) ∧ isN s.res) ∧ isT s.fin) 2
def siE (s : Si) : Int × Int :=
  if (tsE s.tk).2 = 0 then
    if hoE s = 0 then
      if (eachN (hmN s) 0 s.ho.length).2 = 0 then
        if (eachN (plN s) 0 s.tk.length).2 = 0 then
          if (s.ti.length : Int) > 6 then (0, 8) else
          if (eachN (tiN s) 0 s.ti.length).2 = 0 then (0, enE s) else eachN (tiN s) 0 s.ti.length
        else eachN (plN s) 0 s.tk.length
      else eachN (hmN s) 0 s.ho.length
    else (0, hoE s)
  else tsE s.tk
structure SiSm (s : Si) : Prop where
  tk : s.tk.length ≤ 1000000
  t : TkSm s.tk
  tr : s.tr.length ≤ 1000000
  r : ∀ i, i < s.tr.length → (s.tr.getD i []).length ≤ 1000000
  ho : s.ho.length ≤ 1000000
  ti : s.ti.length ≤ 1000000
theorem unb_of {b c : Bool} {e : Int} (h : b = c) : unb b e = unb c e := by rw [h]
theorem tiF_of {x : Int × Int × Int} {last : Int} {b1 b2 : Bool} (h1 : b1 = decide ((isT x.1 ∧ isT x.2.1) ∧ isN x.2.2)) (h2 : b2 = decide (x.1 ≤ x.2.1 ∧ last < x.1)) : fstE [unb b1 2, unb b2 9] = tiF x last := by subst h1; subst h2; rfl
theorem tiF_h {x : Int × Int × Int} {last : Int} {b1 b2 : Bool} {P : Int → Prop} (h : P (fstE [unb b1 2, unb b2 9])) (h1 : b1 = decide ((isT x.1 ∧ isT x.2.1) ∧ isN x.2.2)) (h2 : b2 = decide (x.1 ≤ x.2.1 ∧ last < x.1)) : P (tiF x last) := tiF_of h1 h2 ▸ h
theorem hmN_of {s : Si} {i : Nat} {b : Bool} (h1 : b = hmB s i) : fstE [unl (isN (s.ho.getD i 0)) 2, unl (((s.tr.getD i []).length : Int) = s.ho.length) 10, unb b 2] = hmN s i := by subst h1; rfl
theorem hmN_h {s : Si} {i : Nat} {b : Bool} {P : Int → Prop} (h : P (fstE [unl (isN (s.ho.getD i 0)) 2, unl (((s.tr.getD i []).length : Int) = s.ho.length) 10, unb b 2])) (h1 : b = hmB s i) : P (hmN s i) := hmN_of h1 ▸ h
theorem C171 {s : Si} : SiSm s → PFD Tryz.prog 171 [siv s] (.tup [vi .i64 (siE s).1, vi .i64 (siE s).2]) := fun hs => by
  obtain ⟨stk, st, str, sr, sho, sti⟩ := hs
  obtain ⟨q, hq⟩ : ∃ q, q = siE s := ⟨_, rfl⟩
  rw [← hq]
  rw [siE] at hq
  have c1 := C113 (l := s.tk) ⟨stk, st⟩
  refine pi2 fn171 ?_
  (repeat' first | (refine Owe.same ?_; first | refine Owe.o ?_ | refine Owe.mk ?_ ?_) | (refine Fork.same ?_; (first | refine fkD ?_ ?_ | refine fkN ?_ ?_ | refine fkM ?_ ?_) <;> intro h) | ((first | refine OpsL.same ?_ | refine OpsDL.same ?_); first | refine pK c1 rfl rfl ?_ | refine pK C152 rfl rfl ?_ | refine pK C151 rfl rfl ?_) | refine MvQ.stay ?_)
  · rw [if_neg h] at hq; subst hq; (refine rqK rfl ?_; (repeat' first | exact rfl | (refine qS ?_; constructor)))
  · rename_i h0
    have h : ¬ hoE s = 0 := h
    rw [if_pos h0, if_neg h] at hq; subst hq; (refine rqK rfl ?_; (repeat' first | exact rfl | (refine qS ?_; constructor)))
  · rename_i h0
    have h1 : hoE s = 0 := h
    rw [if_pos h0, if_pos h1] at hq
    have hb := fstE_ok.1 h1
    simp only [List.mem_cons, List.not_mem_nil, or_false, forall_eq_or_imp, forall_eq, unl, unb_ok (show (10 : Int) ≠ 0 by decide), unb_ok (show (8 : Int) ≠ 0 by decide), decide_eq_true_eq] at hb
    refine Ops.cs rfl rfl (CallS.of fn220 rfl ?_)
    (repeat' first | (refine Owe.same ?_; first | refine Owe.o ?_ | refine Owe.mk ?_ ?_) | (refine Fork.same ?_; (first | refine fkD ?_ ?_ | refine fkN ?_ ?_ | refine fkM ?_ ?_) <;> intro h) | refine MvQ.stay ?_)
    have hret : ∀ {k}, k < s.ho.length → (∀ i, i < k → hmN s i = 0) → ¬ hmN s k = 0 → q = ((k : Int), hmN s k) := fun hk h1 h2 => by
      have e := eachN_e hk h1 h2
      rw [if_neg (by rw [e]; exact h2), e] at hq; exact hq
    refine Sat.lp (fun k : Nat => ⟨[(11, vi .i64 k), (10, vi .i64 s.ho.length), (9, .c (ints s.ho)), (1, .c (.fn 229 [0, 1]))], [(1, .box [int s.ho.length]), (0, .box (siC s))], 13⟩) (fun k => k ≤ s.ho.length ∧ ∀ i, i < k → hmN s i = 0) (fun k => s.ho.length - k) 0 [] ⟨Nat.zero_le _, fun i hi => by omega⟩ ?_ ?_
    · (refine qis ?_ ?_ <;> (repeat' first | exact rfl | (refine qS ?_; constructor)))
    · intro k hk
      refine Fork.dec (fun hlt => ?_) (fun hlt => ?_)
      · have hlt : k < s.ho.length := by omega
        have c2 := C158o (l := s.tr.getD k []) (sr k (by omega))
        have hb1 : (!oddI (s.tr.getD k [])) = true → (((s.tr.getD k []).length : Int) ≤ k) → true = hmB s k := fun h1 h2 => by rw [hmB, h1, decide_eq_true h2]; rfl
        have hb2 : (!oddI (s.tr.getD k [])) = true → ¬ (((s.tr.getD k []).length : Int) ≤ k) → decide ((s.tr.getD k []).getD k 0 = 0) = hmB s k := fun h1 h2 => by rw [hmB, h1, decide_eq_false h2]; rfl
        have hb3 : (!oddI (s.tr.getD k [])) = false → false = hmB s k := fun h1 => by rw [hmB, h1]; rfl
        (repeat' first | (refine Owe.same ?_; first | refine Owe.o ?_ | refine Owe.mk ?_ ?_) | (refine Fork.same ?_; (first | refine fkD ?_ ?_ | refine fkN ?_ ?_ | refine fkM ?_ ?_) <;> intro h) | refine MvQ.stay ?_)
        refine Ops.cs rfl rfl (CallS.of fn229 rfl ?_)
        (repeat' first | (refine Owe.same ?_; first | refine Owe.o ?_ | refine Owe.mk ?_ ?_) | (refine Fork.same ?_; (first | refine fkD ?_ ?_ | refine fkN ?_ ?_ | refine fkM ?_ ?_) <;> intro h) | ((first | refine OpsL.same ?_ | refine OpsDL.same ?_); first | refine pK c2 rfl rfl ?_ | refine pK C154 rfl rfl ?_ | refine pK C152 rfl rfl ?_ | refine pK C151 rfl rfl ?_) | refine MvQ.stay ?_)
        all_goals first
          | contradiction
          | have h2 : hmN s k = 0 := hmN_h (P := fun x => x = 0) h (by first | exact hb1 ‹_› ‹_› | exact hb2 ‹_› ‹_› | exact hb3 ‹_›)
            refine again (k + 1) [] ⟨hlt, succ_all hk.2 h2⟩ (by omega) ?_
            (refine qis ?_ ?_ <;> (repeat' first | exact rfl | (refine qS ?_; constructor)))
          | have h2 : ¬ hmN s k = 0 ∧ _ = hmN s k := hmN_h (P := fun x => ¬ x = 0 ∧ _ = x) ⟨h, rfl⟩ (by first | exact hb1 ‹_› ‹_› | exact hb2 ‹_› ‹_› | exact hb3 ‹_›)
            have e := hret hlt hk.2 h2.1
            subst e
            (refine rqK rfl ?_; (repeat' first | exact rfl | (refine qS ?_; constructor)))
            exact h2.2
      · have : k = s.ho.length := by omega
        subst this
        rw [if_pos (eachN_ok.2 hk.2)] at hq
        (repeat' first | (refine Owe.same ?_; first | refine Owe.o ?_ | refine Owe.mk ?_ ?_) | (refine Fork.same ?_; (first | refine fkY ?_ | refine fkF ?_ | ((first | refine fkD ?_ ?_ | refine fkN ?_ ?_ | refine fkM ?_ ?_) <;> intro h))) | ((first | refine OpsL.same ?_ | refine OpsDL.same ?_); first | refine oK C152 rfl rfl rfl ?_) | refine MvQ.stay ?_)
        clear hret
        have hret : ∀ {k}, k < s.tk.length → (∀ i, i < k → plN s i = 0) → ¬ plN s k = 0 → q = ((k : Int), plN s k) := fun hk h1 h2 => by
          have e := eachN_e hk h1 h2
          rw [if_neg (by rw [e]; exact h2), e] at hq; exact hq
        clear hk hlt
        refine Ops.cs rfl rfl (CallS.of fn199 rfl ?_)
        (repeat' first | (refine Owe.same ?_; first | refine Owe.o ?_ | refine Owe.mk ?_ ?_) | (refine Fork.same ?_; (first | refine fkD ?_ ?_ | refine fkN ?_ ?_ | refine fkM ?_ ?_) <;> intro h) | refine MvQ.stay ?_)
        refine Sat.lp (fun k : Nat => ⟨[(11, vi .i64 k), (10, vi .i64 s.tk.length), (9, .c (tks s.tk)), (1, .c (.fn 231 [1]))], [(1, .box [int s.ho.length]), (0, .box (siC s))], 13⟩) (fun k => k ≤ s.tk.length ∧ ∀ i, i < k → plN s i = 0) (fun k => s.tk.length - k) 0 [] ⟨Nat.zero_le _, fun i hi => by omega⟩ ?_ ?_
        · (refine qis ?_ ?_ <;> (repeat' first | exact rfl | (refine qS ?_; constructor)))
        · intro k hk
          refine Fork.dec (fun hlt => ?_) (fun hlt => ?_)
          · have hlt : k < s.tk.length := by omega
            (repeat' first | (refine Owe.same ?_; first | refine Owe.o ?_ | refine Owe.mk ?_ ?_) | (refine Fork.same ?_; (first | refine fkD ?_ ?_ | refine fkN ?_ ?_ | refine fkM ?_ ?_) <;> intro h) | refine MvQ.stay ?_)
            refine Ops.cs rfl rfl (CallS.of fn231 rfl ?_)
            (repeat' first | (refine Owe.same ?_; first | refine Owe.o ?_ | refine Owe.mk ?_ ?_) | (refine Fork.same ?_; (first | refine fkD ?_ ?_ | refine fkN ?_ ?_ | refine fkM ?_ ?_) <;> intro h) | ((first | refine OpsL.same ?_ | refine OpsDL.same ?_); first | refine pK C152 rfl rfl ?_) | refine MvQ.stay ?_)
            all_goals first
              | contradiction
              | have h2 : plN s k = 0 := h
                refine again (k + 1) [] ⟨hlt, succ_all hk.2 h2⟩ (by omega) ?_
                (refine qis ?_ ?_ <;> (repeat' first | exact rfl | (refine qS ?_; constructor)))
              | have h2 : ¬ plN s k = 0 := h
                have e := hret hlt hk.2 h2
                subst e
                (refine rqK rfl ?_; (repeat' first | exact rfl | (refine qS ?_; constructor)))
          · have : k = s.tk.length := by omega
            subst this
            rw [if_pos (eachN_ok.2 hk.2)] at hq
            (repeat' first | (refine Owe.same ?_; first | refine Owe.o ?_ | refine Owe.mk ?_ ?_) | (refine Fork.same ?_; (first | refine fkY ?_ | refine fkF ?_ | ((first | refine fkD ?_ ?_ | refine fkN ?_ ?_ | refine fkM ?_ ?_) <;> intro h))) | ((first | refine OpsL.same ?_ | refine OpsDL.same ?_); first | refine oK C152 rfl rfl rfl ?_) | refine MvQ.stay ?_)
            · rw [if_pos h] at hq; subst hq; (refine rqK rfl ?_; (repeat' first | exact rfl | (refine qS ?_; constructor)))
            · rw [if_neg h] at hq
              clear hret
              have hret : ∀ {k}, k < s.ti.length → (∀ i, i < k → tiN s i = 0) → ¬ tiN s k = 0 → q = ((k : Int), tiN s k) := fun hk h1 h2 => by
                have e := eachN_e hk h1 h2
                rw [if_neg (by rw [e]; exact h2), e] at hq; exact hq
              clear hk hlt
              refine Ops.cs rfl rfl (CallS.of fn232 rfl ?_)
              (repeat' first | (refine Owe.same ?_; first | refine Owe.o ?_ | refine Owe.mk ?_ ?_) | (refine Fork.same ?_; (first | refine fkD ?_ ?_ | refine fkN ?_ ?_ | refine fkM ?_ ?_) <;> intro h) | refine MvQ.stay ?_)
              refine Sat.lp (fun k : Nat => ⟨[(11, vi .i64 k), (10, vi .i64 s.ti.length), (9, .c (trs s.ti)), (1, .c (.fn 233 [13]))], [(13, .box [int (lastT s k)]), (1, .box [int s.ho.length]), (0, .box (siC s))], 14⟩) (fun k => k ≤ s.ti.length ∧ ∀ i, i < k → tiN s i = 0) (fun k => s.ti.length - k) 0 [] ⟨Nat.zero_le _, fun i hi => by omega⟩ ?_ ?_
              · (refine qis ?_ ?_ <;> (repeat' first | exact rfl | (refine qS ?_; constructor)))
              · intro k hk
                refine Fork.dec (fun hlt => ?_) (fun hlt => ?_)
                · have hlt : k < s.ti.length := by omega
                  obtain ⟨last, hla⟩ : ∃ x, x = lastT s k := ⟨_, rfl⟩
                  rw [← hla]
                  have hret : ¬ tiF (s.ti.getD k (0, 0, 0)) last = 0 → q = ((k : Int), tiF (s.ti.getD k (0, 0, 0)) last) := fun h2 => by subst hla; exact hret hlt hk.2 h2
                  have hnx : tiF (s.ti.getD k (0, 0, 0)) last = 0 → ∀ i, i < k + 1 → tiN s i = 0 := fun h2 => by subst hla; exact succ_all hk.2 h2
                  clear hla
                  obtain ⟨x, hx⟩ : ∃ x, x = s.ti.getD k (0, 0, 0) := ⟨_, rfl⟩
                  (repeat' first | (refine Owe.same ?_; first | refine Owe.o ?_ | refine Owe.mk ?_ ?_) | (refine Fork.same ?_; (first | refine fkD ?_ ?_ | refine fkN ?_ ?_ | refine fkM ?_ ?_) <;> intro h) | refine MvQ.stay ?_)
                  refine Ops.cs rfl rfl (CallS.of fn233 rfl ?_)
                  (repeat' first | (refine Owe.same ?_; first | refine Owe.o ?_ | refine Owe.mk ?_ ?_) | (refine Fork.same ?_; (first | refine fkD ?_ ?_ | refine fkN ?_ ?_ | refine fkM ?_ ?_) <;> intro h) | ((first | refine OpsL.same ?_ | refine OpsDL.same ?_); first | refine pK C234 rfl rfl ?_ | refine pK C154 rfl rfl ?_ | refine pK C152 rfl rfl ?_ | refine pK C151 rfl rfl ?_) | refine MvQ.stay ?_)
                  all_goals first
                    | contradiction
                    | have h2 : tiF (s.ti.getD k (0, 0, 0)) last = 0 := tiF_h (P := fun x => x = 0) h (by rw [Bool.eq_iff_iff]; (try simp only [decide_eq_true_eq, Bool.false_eq_true, false_iff]); simp only [Int.toNat_natCast] at *; omega) (by rw [Bool.eq_iff_iff]; (try simp only [decide_eq_true_eq, Bool.false_eq_true, false_iff]); simp only [Int.toNat_natCast] at *; omega)
                      refine again (k + 1) [] ⟨hlt, hnx h2⟩ (by omega) ?_
                      (refine qis ?_ ?_ <;> (repeat' first | exact rfl | (refine qS ?_; constructor)))
                    | have h2 : ¬ tiF (s.ti.getD k (0, 0, 0)) last = 0 := tiF_h (P := fun x => ¬ x = 0) h (by rw [Bool.eq_iff_iff]; (try simp only [decide_eq_true_eq, Bool.false_eq_true, false_iff]); simp only [Int.toNat_natCast] at *; omega) (by rw [Bool.eq_iff_iff]; (try simp only [decide_eq_true_eq, Bool.false_eq_true, false_iff]); simp only [Int.toNat_natCast] at *; omega)
                      have e := hret h2
                      subst e
                      (refine rqK rfl ?_; (repeat' first | exact rfl | (refine qS ?_; constructor)))
                      exact tiF_of (by rw [Bool.eq_iff_iff]; (try simp only [decide_eq_true_eq, Bool.false_eq_true, false_iff]); simp only [Int.toNat_natCast] at *; omega) (by rw [Bool.eq_iff_iff]; (try simp only [decide_eq_true_eq, Bool.false_eq_true, false_iff]); simp only [Int.toNat_natCast] at *; omega)
                · have : k = s.ti.length := by omega
                  subst this
                  rw [if_pos (eachN_ok.2 hk.2)] at hq
                  (repeat' first | (refine Owe.same ?_; first | refine Owe.o ?_ | refine Owe.mk ?_ ?_) | (refine Fork.same ?_; (first | refine fkY ?_ | refine fkF ?_ | ((first | refine fkD ?_ ?_ | refine fkN ?_ ?_ | refine fkM ?_ ?_) <;> intro h))) | ((first | refine OpsL.same ?_ | refine OpsDL.same ?_); first | refine oK C234 rfl rfl rfl ?_ | refine oK C154 rfl rfl rfl ?_ | refine oK C152 rfl rfl rfl ?_) | refine MvQ.stay ?_)
                  all_goals subst hq
                  all_goals (refine rqK rfl ?_; (repeat' first | exact rfl | (refine qS ?_; constructor)))
                  all_goals exact unb_of (by rw [Bool.eq_iff_iff]; (try simp only [decide_eq_true_eq, Bool.false_eq_true, false_iff]); omega)
end Go.Pw
set_option linter.unusedVariables false
namespace Go.Pw
open Go Go.RowKit
theorem okD_listI {row : List Sh} {α : Type} {r : α → List D} {Q : α → Prop} (a0 : α) (hr : ∀ ds, OkDs row ds → ∃ a, DIs ds (r a) ∧ Q a) {d : D} (h : OkD (.sl row) d) :
    ∃ l : List α, DI d (.sl row.length l.length fun i => r (l.getD i a0)) ∧ l.length ≤ maxLen ∧ ∀ a ∈ l, Q a := by
  obtain ⟨n, f, rfl, hn, hf⟩ := okD_sl h
  have : ∀ i, ∃ a, i < n → DIs (f i) (r a) ∧ Q a := fun i => by
    by_cases hi : i < n
    · obtain ⟨a, ha⟩ := hr _ (hf i hi); exact ⟨a, fun _ => ha⟩
    · exact ⟨a0, fun h => absurd h hi⟩
  refine ⟨(List.range n).map fun i => Classical.choose (this i), ?_, by simpa using hn, fun a ha => ?_⟩
  · rw [show ((List.range n).map fun i => Classical.choose (this i)).length = n by simp]
    refine DI.sl fun i hi => ?_
    have h1 := (Classical.choose_spec (this i) hi).1
    rw [List.getD_eq_getElem?_getD]
    simpa [hi] using h1
  · obtain ⟨i, hi, rfl⟩ := List.mem_map.1 ha
    exact (Classical.choose_spec (this i) (by simpa using hi)).2
abbrev tkSh : List Sh := [.str, .int .i64, .int .i64, .int .i64, .int .i64, .int .i64, .int .i64, .int .i64, .sl [.int .i64]]
abbrev stSh : List Sh := [.int .i64, .int .i64, .int .i64, .int .i64, .sl [.int .i64]]
theorem pfd_below {P : Program} {f : FuncId} {args : List V} {v : V} (hent : Ent1 P f)
    (h : ∀ (Γ : Cx) (w : World) (us : Array Value), StoreOk Γ w [] → RepL Γ w args us → Calls P f us w fun e w' => ∃ u, e = .returned u ∧ Below w.heap.size w w' ∧ RepV ⟨fun k => Γ.I k ∨ (w.heap.size ≤ k ∧ k < w'.heap.size), Γ.ρ, Γ.κ⟩ w' v u) : PFD P f args v := by
  refine ⟨hent, Nat.le_refl _, fun Γ w us hst hno hr => (h Γ w us hst hr).mono fun e w' ⟨u, he, hB, hv⟩ => ⟨u, _, he, hv, storeOk_nil (fun k hk => ?_) (hst.lay.mono (fun _ h => .inl h) fun k hI => hB.block k (hst.im k hI)), ⟨fun k h => .inl h, fun _ _ h => h, fun _ _ _ => rfl⟩, fun _ _ => ⟨rfl, rfl⟩,
    ⟨hB.os, hB.tape, hB.output, hB.size, fun k h => .inl h, fun k h => ?_, fun _ _ => rfl, fun _ _ => rfl, fun k hk _ => hB.block k hk, fun k h => absurd h not_live_nil⟩⟩⟩
  · rcases hk with hk | hk
    · exact Nat.lt_of_lt_of_le (hst.im k hk) hB.size
    · exact hk.2
  · rcases h with h | h
    · exact .inl h
    · exact .inr (.inl h.1)
theorem RepL.one {Γ : Cx} {w : World} {a : V} {us : Array Value} (h : RepL Γ w [a] us) : ∃ u, us = #[u] ∧ RepV Γ w a u := by
  obtain ⟨us⟩ := us
  have h1 := h.1
  match us, h1 with
  | [u], _ => exact ⟨u, rfl, h.2 0 _ _ rfl rfl⟩
theorem RepL.two {Γ : Cx} {w : World} {a b : V} {us : Array Value} (h : RepL Γ w [a, b] us) : ∃ u v, us = #[u, v] ∧ RepV Γ w a u ∧ RepV Γ w b v := by
  obtain ⟨us⟩ := us
  have h1 := h.1
  match us, h1 with
  | [u, v], _ => exact ⟨u, v, rfl, h.2 0 _ _ rfl rfl, h.2 1 _ _ rfl rfl⟩
theorem LayOk.cell {I : Nat → Prop} {w : World} (h : LayOk I w) : ∃ W0, LaidW W0 ∧ (∀ a v, W0.cell? a = some v → w.cell? a = some v) ∧ ∀ k, k < W0.heap.size → w.heap[k]? = W0.heap[k]? := by
  obtain ⟨W0, h1, h2⟩ := h
  refine ⟨W0, h1, fun a v hv => ?_, fun k hk => (h2 k hk).2⟩
  have hb := World.block_lt_of_cell? _ _ hv
  have e := (h2 _ hb).2
  rw [← hv]
  simp only [World.cell?, e]
end Go.Pw
set_option linter.unusedSimpArgs false
set_option linter.unusedVariables false
set_option maxHeartbeats 2000000
set_option maxRecDepth 100000
namespace Go.Pw
open Go Go.RowKit Go.Sort Go.Lib Go.Shelf
open Go.Proofs
def sh_lays156_ren : Go.Shelf.Ren := ⟨fun | 156 => 93 | 165 => 182 | 166 => 183 | 169 => 184 | 240 => 245 | 241 => 246 | 276 => 275 | 277 => 276 | n => n, fun | 31 => 158 | 9 => 9 | 3 => 3 | 4 => 4 | 0 => 0 | 20 => 20 | 72 => 255 | 76 => 259 | 70 => 252 | 37 => 253 | 75 => 258 | 127 => 305 | 164 => 328 | 5 => 5 | 80 => 261 | n => n, fun | n => n⟩
theorem sh_lays156 : Go.Proofs.Lays.n156 Tryz.prog sh_lays156_ren := {
  mixed := by kernel_rfl
  f156 := Tryz.func93.trans (congrArg some (by kernel_rfl))
  f165 := Tryz.func182.trans (congrArg some (by kernel_rfl))
  f166 := Tryz.func183.trans (congrArg some (by kernel_rfl))
  f169 := Tryz.func184.trans (congrArg some (by kernel_rfl))
  f240 := Tryz.func245.trans (congrArg some (by kernel_rfl))
  f241 := Tryz.func246.trans (congrArg some (by kernel_rfl))
  f276 := Tryz.func275.trans (congrArg some (by kernel_rfl))
  f277 := Tryz.func276.trans (congrArg some (by kernel_rfl))
  t0 := Tryz.underlying0
  a0 := Tryz.isAgg0
  z0 := Tryz.sizeOf0
  v0 := Tryz.zeroValue0
  t3 := Tryz.underlying3
  a3 := Tryz.isAgg3
  z3 := Tryz.sizeOf3
  v3 := Tryz.zeroValue3
  t4 := Tryz.underlying4
  a4 := Tryz.isAgg4
  z4 := Tryz.sizeOf4
  v4 := Tryz.zeroValue4
  t9 := Tryz.underlying9
  a9 := Tryz.isAgg9
  z9 := Tryz.sizeOf9
  v9 := Tryz.zeroValue9
  t20 := Tryz.underlying20
  a20 := Tryz.isAgg20
  z20 := Tryz.sizeOf20
  v20 := Tryz.zeroValue20
  t31 := Tryz.underlying158
  a31 := Tryz.isAgg158
  z31 := Tryz.sizeOf158
  v31 := Tryz.zeroValue158
  t37 := Tryz.underlying253
  a37 := Tryz.isAgg253
  z37 := Tryz.sizeOf253
  v37 := Tryz.zeroValue253
  t70 := Tryz.underlying252
  a70 := Tryz.isAgg252
  z70 := Tryz.sizeOf252
  v70 := Tryz.zeroValue252
  t72 := Tryz.underlying255
  a72 := Tryz.isAgg255
  z72 := Tryz.sizeOf255
  v72 := Tryz.zeroValue255
  t75 := Tryz.underlying258
  a75 := Tryz.isAgg258
  z75 := Tryz.sizeOf258
  v75 := Tryz.zeroValue258
  t76 := Tryz.underlying259
  a76 := Tryz.isAgg259
  z76 := Tryz.sizeOf259
  v76 := Tryz.zeroValue259
  t127 := Tryz.underlying305
  a127 := Tryz.isAgg305
  z127 := Tryz.sizeOf305
  v127 := Tryz.zeroValue305
  t164 := Tryz.underlying328
  a164 := Tryz.isAgg328
  z164 := Tryz.sizeOf328
  v164 := Tryz.zeroValue328 }
theorem sh_Builder_Extra_156 : Builder.Extra Tryz.prog sh_lays156_ren := {
  sizeBuilder := by kernel_rfl
  liesBuilder := by kernel_rfl
  t5 := Tryz.underlying5
  a5 := Tryz.isAgg5
  z5 := Tryz.sizeOf5
  v5 := Tryz.zeroValue5
  infoByte := by kernel_rfl
  cellsByte := by kernel_rfl
  sizeByte := by kernel_rfl
  neB5 := by decide }
theorem sh_strings_Join_none (a : Option Addr) (c : Nat) (sep : ByteArray) (w : World) :
    Calls Tryz.prog 93 #[.slice a 0 c, .string sep] w fun e w' => e = .returned (.string ⟨#[]⟩) ∧ w' = w := Any.strings_Join_none sh_lays156 sh_Builder_Extra_156 a c sep w
theorem sh_strings_Join (bk o c : Nat) (xs : List ByteArray) (sep : ByteArray) (w : World) (hcells : ∀ (j : Nat) x, xs[j]? = some x → w.cell? ⟨bk, o + j, none⟩ = some (.string x)) (hbk : bk < w.heap.size) (hN : xs.length ≤ 140737488355328) (hcap : xs.length ≤ c) (hlen : (Lib.join (xs.map (·.data.toList)) sep.data.toList).length ≤ 140737488355328) :
    Calls Tryz.prog 93 #[.slice (some ⟨bk, o, none⟩) xs.length c, .string sep] w fun e w' => e = .returned (.string ⟨(Lib.join (xs.map (·.data.toList)) sep.data.toList).toArray⟩) ∧ Below w.heap.size w w' := Any.strings_Join sh_lays156 sh_Builder_Extra_156 bk o c xs sep w hcells hbk hN hcap hlen
def sh_laysM171_ren : Go.Shelf.Ren := ⟨fun | 171 => 181 | 243 => 244 | 246 => 274 | 283 => 296 | 284 => 297 | 285 => 298 | 286 => 299 | 129 => 307 | 317 => 306 | 318 => 308 | 319 => 309 | 320 => 310 | 337 => 314 | 338 => 315 | n => n, fun | 3 => 3 | 9 => 9 | 2 => 2 | 4 => 4 | 171 => 342 | 0 => 0 | 53 => 298 | 37 => 253 | 5 => 5 | 173 => 345 | 212 => 361 | 51 => 357 | 20 => 20 | 213 => 362 | 46 => 316 | 232 => 370 | 233 => 371 | n => n, fun | 17 => 5 | 18 => 6 | 19 => 7 | n => n⟩
theorem sh_laysM171 : Go.Proofs.LaysM.n171 Tryz.prog sh_laysM171_ren := {
  mixed := by kernel_rfl
  f129 := Tryz.func307.trans (congrArg some (by kernel_rfl))
  f171 := Tryz.func181.trans (congrArg some (by kernel_rfl))
  f243 := Tryz.func244.trans (congrArg some (by kernel_rfl))
  f246 := Tryz.func274.trans (congrArg some (by kernel_rfl))
  f283 := Tryz.func296.trans (congrArg some (by kernel_rfl))
  f284 := Tryz.func297.trans (congrArg some (by kernel_rfl))
  f285 := Tryz.func298.trans (congrArg some (by kernel_rfl))
  f286 := Tryz.func299.trans (congrArg some (by kernel_rfl))
  f317 := Tryz.func306.trans (congrArg some (by kernel_rfl))
  f318 := Tryz.func308.trans (congrArg some (by kernel_rfl))
  f319 := Tryz.func309.trans (congrArg some (by kernel_rfl))
  f320 := Tryz.func310.trans (congrArg some (by kernel_rfl))
  f337 := Tryz.func314.trans (congrArg some (by kernel_rfl))
  f338 := Tryz.func315.trans (congrArg some (by kernel_rfl))
  t0 := Tryz.underlying0
  a0 := Tryz.isAgg0
  z0 := Tryz.sizeOf0
  v0 := Tryz.zeroValue0
  t2 := Tryz.underlying2
  a2 := Tryz.isAgg2
  z2 := Tryz.sizeOf2
  v2 := Tryz.zeroValue2
  t3 := Tryz.underlying3
  a3 := Tryz.isAgg3
  z3 := Tryz.sizeOf3
  v3 := Tryz.zeroValue3
  t4 := Tryz.underlying4
  a4 := Tryz.isAgg4
  z4 := Tryz.sizeOf4
  v4 := Tryz.zeroValue4
  t5 := Tryz.underlying5
  a5 := Tryz.isAgg5
  z5 := Tryz.sizeOf5
  v5 := Tryz.zeroValue5
  t9 := Tryz.underlying9
  a9 := Tryz.isAgg9
  z9 := Tryz.sizeOf9
  v9 := Tryz.zeroValue9
  t20 := Tryz.underlying20
  a20 := Tryz.isAgg20
  z20 := Tryz.sizeOf20
  v20 := Tryz.zeroValue20
  t37 := Tryz.underlying253
  a37 := Tryz.isAgg253
  z37 := Tryz.sizeOf253
  v37 := Tryz.zeroValue253
  t46 := Tryz.underlying316
  a46 := Tryz.isAgg316
  z46 := Tryz.sizeOf316
  v46 := Tryz.zeroValue316
  t51 := Tryz.underlying357
  a51 := Tryz.isAgg357
  z51 := Tryz.sizeOf357
  v51 := Tryz.zeroValue357
  t53 := Tryz.underlying298
  a53 := Tryz.isAgg298
  z53 := Tryz.sizeOf298
  v53 := Tryz.zeroValue298
  t171 := Tryz.underlying342
  a171 := Tryz.isAgg342
  z171 := Tryz.sizeOf342
  v171 := Tryz.zeroValue342
  t173 := Tryz.underlying345
  a173 := Tryz.isAgg345
  z173 := Tryz.sizeOf345
  v173 := Tryz.zeroValue345
  t212 := Tryz.underlying361
  a212 := Tryz.isAgg361
  z212 := Tryz.sizeOf361
  v212 := Tryz.zeroValue361
  t213 := Tryz.underlying362
  a213 := Tryz.isAgg362
  z213 := Tryz.sizeOf362
  t232 := Tryz.underlying370
  a232 := Tryz.isAgg370
  z232 := Tryz.sizeOf370
  v232 := Tryz.zeroValue370
  t233 := Tryz.underlying371
  a233 := Tryz.isAgg371
  z233 := Tryz.sizeOf371
  v233 := Tryz.zeroValue371
  g17 := by kernel_rfl
  g18 := by kernel_rfl
  g19 := by kernel_rfl
  i0 := by kernel_rfl
  i2 := by kernel_rfl
  i3 := by kernel_rfl
  i4 := by kernel_rfl
  i5 := by kernel_rfl
  i9 := by kernel_rfl
  i20 := by kernel_rfl
  i37 := by kernel_rfl
  i46 := by kernel_rfl
  i51 := by kernel_rfl
  i53 := by kernel_rfl
  i171 := by kernel_rfl
  i173 := by kernel_rfl
  i212 := by kernel_rfl
  i232 := by kernel_rfl
  i233 := by kernel_rfl
  m17 := by kernel_rfl
  m18 := by kernel_rfl
  m19 := by kernel_rfl }
theorem sh_strconv_Itoa (n : Int) (h0 : -9223372036854775808 ≤ n) (h1 : n ≤ 9223372036854775807) (w : World) (h5 : ∃ t fr, w.heap[5]? = some (.cells (Lib.pow10Tab.map fun z => Value.int .u64 z).toArray t fr)) :
    Calls Tryz.prog 181 #[.int .i64 n] w fun e w' => e = .returned (.string ⟨(Lib.itoa n).toArray⟩) ∧ ∃ k os, w' = grow (w.drewN k) os := by
  obtain ⟨t, fr, h5⟩ := h5
  refine Any.strconv_Itoa sh_laysM171 n h0 h1 w ?_
  unfold Lib.TabIs World.var?
  rw [sh_laysM171.m17]
  show (match w.heap[5]? with | some (.cells cs _ _) => some cs | _ => none) = _
  rw [h5]
def sh_laysC172_ren : Go.Shelf.Ren := ⟨fun | 172 => 191 | 244 => 251 | 245 => 252 | 247 => 279 | 279 => 280 | 280 => 281 | 281 => 282 | 282 => 283 | 287 => 300 | 316 => 301 | 171 => 181 | 205 => 302 | 321 => 311 | 322 => 312 | 243 => 244 | 246 => 274 | 283 => 296 | 284 => 297 | 285 => 298 | 286 => 299 | 129 => 307 | 317 => 306 | 318 => 308 | 319 => 309 | 320 => 310 | 337 => 314 | 338 => 315 | n => n, fun | 9 => 9 | 3 => 3 | 75 => 258 | 76 => 259 | 4 => 4 | 5 => 5 | 167 => 333 | 37 => 253 | 0 => 0 | 85 => 334 | 2 => 2 | 168 => 336 | 53 => 298 | 175 => 347 | 46 => 316 | 210 => 351 | 127 => 305 | 145 => 367 | 143 => 365 | 21 => 21 | 171 => 342 | 173 => 345 | 212 => 361 | 51 => 357 | 20 => 20 | 213 => 362 | 232 => 370 | 233 => 371 | 80 => 261 | n => n, fun | 15 => 1 | 16 => 2 | 17 => 5 | 18 => 6 | 19 => 7 | n => n⟩
theorem sh_laysC172 : Go.Proofs.LaysC.n172 Tryz.prog sh_laysC172_ren := {
  mixed := by kernel_rfl
  f129 := Tryz.func307.trans (congrArg some (by kernel_rfl))
  f171 := Tryz.func181.trans (congrArg some (by kernel_rfl))
  f172 := Tryz.func191.trans (congrArg some (by kernel_rfl))
  f205 := Tryz.func302.trans (congrArg some (by kernel_rfl))
  f243 := Tryz.func244.trans (congrArg some (by kernel_rfl))
  f244 := Tryz.func251.trans (congrArg some (by kernel_rfl))
  f245 := Tryz.func252.trans (congrArg some (by kernel_rfl))
  f246 := Tryz.func274.trans (congrArg some (by kernel_rfl))
  f247 := Tryz.func279.trans (congrArg some (by kernel_rfl))
  f279 := Tryz.func280.trans (congrArg some (by kernel_rfl))
  f280 := Tryz.func281.trans (congrArg some (by kernel_rfl))
  f281 := Tryz.func282.trans (congrArg some (by kernel_rfl))
  f282 := Tryz.func283.trans (congrArg some (by kernel_rfl))
  f283 := Tryz.func296.trans (congrArg some (by kernel_rfl))
  f284 := Tryz.func297.trans (congrArg some (by kernel_rfl))
  f285 := Tryz.func298.trans (congrArg some (by kernel_rfl))
  f286 := Tryz.func299.trans (congrArg some (by kernel_rfl))
  f287 := Tryz.func300.trans (congrArg some (by kernel_rfl))
  f316 := Tryz.func301.trans (congrArg some (by kernel_rfl))
  f317 := Tryz.func306.trans (congrArg some (by kernel_rfl))
  f318 := Tryz.func308.trans (congrArg some (by kernel_rfl))
  f319 := Tryz.func309.trans (congrArg some (by kernel_rfl))
  f320 := Tryz.func310.trans (congrArg some (by kernel_rfl))
  f321 := Tryz.func311.trans (congrArg some (by kernel_rfl))
  f322 := Tryz.func312.trans (congrArg some (by kernel_rfl))
  f337 := Tryz.func314.trans (congrArg some (by kernel_rfl))
  f338 := Tryz.func315.trans (congrArg some (by kernel_rfl))
  t0 := Tryz.underlying0
  a0 := Tryz.isAgg0
  z0 := Tryz.sizeOf0
  v0 := Tryz.zeroValue0
  t2 := Tryz.underlying2
  a2 := Tryz.isAgg2
  z2 := Tryz.sizeOf2
  v2 := Tryz.zeroValue2
  t3 := Tryz.underlying3
  a3 := Tryz.isAgg3
  z3 := Tryz.sizeOf3
  v3 := Tryz.zeroValue3
  t4 := Tryz.underlying4
  a4 := Tryz.isAgg4
  z4 := Tryz.sizeOf4
  v4 := Tryz.zeroValue4
  t5 := Tryz.underlying5
  a5 := Tryz.isAgg5
  z5 := Tryz.sizeOf5
  v5 := Tryz.zeroValue5
  t9 := Tryz.underlying9
  a9 := Tryz.isAgg9
  z9 := Tryz.sizeOf9
  v9 := Tryz.zeroValue9
  t20 := Tryz.underlying20
  a20 := Tryz.isAgg20
  z20 := Tryz.sizeOf20
  v20 := Tryz.zeroValue20
  t21 := Tryz.underlying21
  a21 := Tryz.isAgg21
  z21 := Tryz.sizeOf21
  v21 := Tryz.zeroValue21
  t37 := Tryz.underlying253
  a37 := Tryz.isAgg253
  z37 := Tryz.sizeOf253
  v37 := Tryz.zeroValue253
  t46 := Tryz.underlying316
  a46 := Tryz.isAgg316
  z46 := Tryz.sizeOf316
  v46 := Tryz.zeroValue316
  t51 := Tryz.underlying357
  a51 := Tryz.isAgg357
  z51 := Tryz.sizeOf357
  v51 := Tryz.zeroValue357
  t53 := Tryz.underlying298
  a53 := Tryz.isAgg298
  z53 := Tryz.sizeOf298
  v53 := Tryz.zeroValue298
  t75 := Tryz.underlying258
  a75 := Tryz.isAgg258
  z75 := Tryz.sizeOf258
  v75 := Tryz.zeroValue258
  t76 := Tryz.underlying259
  a76 := Tryz.isAgg259
  z76 := Tryz.sizeOf259
  v76 := Tryz.zeroValue259
  t85 := Tryz.underlying334
  a85 := Tryz.isAgg334
  z85 := Tryz.sizeOf334
  v85 := Tryz.zeroValue334
  t127 := Tryz.underlying305
  a127 := Tryz.isAgg305
  z127 := Tryz.sizeOf305
  v127 := Tryz.zeroValue305
  t143 := Tryz.underlying365
  a143 := Tryz.isAgg365
  z143 := Tryz.sizeOf365
  v143 := Tryz.zeroValue365
  t145 := Tryz.underlying367
  a145 := Tryz.isAgg367
  z145 := Tryz.sizeOf367
  v145 := Tryz.zeroValue367
  t167 := Tryz.underlying333
  a167 := Tryz.isAgg333
  z167 := Tryz.sizeOf333
  v167 := Tryz.zeroValue333
  t168 := Tryz.underlying336
  a168 := Tryz.isAgg336
  z168 := Tryz.sizeOf336
  v168 := Tryz.zeroValue336
  t171 := Tryz.underlying342
  a171 := Tryz.isAgg342
  z171 := Tryz.sizeOf342
  v171 := Tryz.zeroValue342
  t173 := Tryz.underlying345
  a173 := Tryz.isAgg345
  z173 := Tryz.sizeOf345
  v173 := Tryz.zeroValue345
  t175 := Tryz.underlying347
  a175 := Tryz.isAgg347
  z175 := Tryz.sizeOf347
  v175 := Tryz.zeroValue347
  t210 := Tryz.underlying351
  a210 := Tryz.isAgg351
  z210 := Tryz.sizeOf351
  v210 := Tryz.zeroValue351
  t212 := Tryz.underlying361
  a212 := Tryz.isAgg361
  z212 := Tryz.sizeOf361
  v212 := Tryz.zeroValue361
  t213 := Tryz.underlying362
  a213 := Tryz.isAgg362
  z213 := Tryz.sizeOf362
  t232 := Tryz.underlying370
  a232 := Tryz.isAgg370
  z232 := Tryz.sizeOf370
  v232 := Tryz.zeroValue370
  t233 := Tryz.underlying371
  a233 := Tryz.isAgg371
  z233 := Tryz.sizeOf371
  v233 := Tryz.zeroValue371
  g15 := by kernel_rfl
  g16 := by kernel_rfl
  g17 := by kernel_rfl
  g18 := by kernel_rfl
  g19 := by kernel_rfl
  t80 := Tryz.underlying261
  a80 := Tryz.isAgg261
  z80 := Tryz.sizeOf261
  v80 := Tryz.zeroValue261
  i0 := by kernel_rfl
  i2 := by kernel_rfl
  i3 := by kernel_rfl
  i4 := by kernel_rfl
  i5 := by kernel_rfl
  i9 := by kernel_rfl
  i20 := by kernel_rfl
  i21 := by kernel_rfl
  i37 := by kernel_rfl
  i46 := by kernel_rfl
  i51 := by kernel_rfl
  i53 := by kernel_rfl
  i75 := by kernel_rfl
  i76 := by kernel_rfl
  i80 := by kernel_rfl
  i85 := by kernel_rfl
  i127 := by kernel_rfl
  i143 := by kernel_rfl
  i145 := by kernel_rfl
  i167 := by kernel_rfl
  i168 := by kernel_rfl
  i171 := by kernel_rfl
  i173 := by kernel_rfl
  i175 := by kernel_rfl
  i210 := by kernel_rfl
  i212 := by kernel_rfl
  i232 := by kernel_rfl
  i233 := by kernel_rfl
  m15 := by kernel_rfl
  m16 := by kernel_rfl
  m17 := by kernel_rfl
  m18 := by kernel_rfl
  m19 := by kernel_rfl
  c0 := by kernel_rfl
  c2 := by kernel_rfl
  c3 := by kernel_rfl
  c4 := by kernel_rfl
  c5 := by kernel_rfl
  c9 := by kernel_rfl
  c20 := by kernel_rfl
  c21 := by kernel_rfl
  c37 := by kernel_rfl
  c46 := by kernel_rfl
  c51 := by kernel_rfl
  c53 := by kernel_rfl
  c75 := by kernel_rfl
  c76 := by kernel_rfl
  c80 := by kernel_rfl
  c85 := by kernel_rfl
  c127 := by kernel_rfl
  c143 := by kernel_rfl
  c145 := by kernel_rfl
  c167 := by kernel_rfl
  c168 := by kernel_rfl
  c171 := by kernel_rfl
  c173 := by kernel_rfl
  c175 := by kernel_rfl
  c210 := by kernel_rfl
  c212 := by kernel_rfl
  c213 := by kernel_rfl
  c232 := by kernel_rfl
  c233 := by kernel_rfl }
theorem sh_strconv_Atoi_ok (s : ByteArray) (hmax : s.size ≤ 9223372036854775806) (v : Int) (h : Lib.atoiAll s.data.toList = .ok v) (w : World) :
    Calls Tryz.prog 191 #[.string s] w fun e w' => e = .returned (.tuple #[.int .i64 v, .nilIface]) ∧ (w' = w ∨ ∃ t, w' = Lib.bytesWorld w 5 t) := Any.strconv_Atoi_ok sh_laysC172 s hmax v h w
theorem sh_strconv_Atoi_syntax (s : ByteArray) (hlim : s.size ≤ 281474976710656) (h : Lib.atoiAll s.data.toList = Lib.NumEnd.syntax) (ev : Value) (w : World) (hv : w.cell? ⟨1, 0, none⟩ = some ev) (hev : ev = .nilIface ∨ ∃ te pe, ev = .iface te pe) :
    Calls Tryz.prog 191 #[.string s] w fun e w' => ∃ N, e = .returned (.tuple #[.int .i64 (0), .iface 336 (.pointer (some ⟨N, 0, none⟩))]) ∧ w.heap.size ≤ N ∧ w'.heap[N]? = some (.cells #[.string ⟨#[65, 116, 111, 105]⟩, .string s, ev] 351 (0, 0)) ∧ Below w.heap.size w w' := Any.strconv_Atoi_syntax sh_laysC172 s hlim h ev w hv hev
theorem sh_strconv_Atoi_range (s : ByteArray) (hlim : s.size ≤ 281474976710656) (h : Lib.atoiAll s.data.toList = .range) (ev : Value) (w : World) (hv : w.cell? ⟨2, 0, none⟩ = some ev) (hev : ev = .nilIface ∨ ∃ te pe, ev = .iface te pe) :
    Calls Tryz.prog 191 #[.string s] w fun e w' => ∃ N, e = .returned (.tuple #[.int .i64 (Lib.atoiSat s.data.toList), .iface 336 (.pointer (some ⟨N, 0, none⟩))]) ∧ w.heap.size ≤ N ∧ w'.heap[N]? = some (.cells #[.string ⟨#[65, 116, 111, 105]⟩, .string s, ev] 351 (0, 0)) ∧ Below w.heap.size w w' := Any.strconv_Atoi_range sh_laysC172 s hlim h ev w hv hev
def sh_lays219_ren : Go.Shelf.Ren := ⟨fun | 219 => 257 | 217 => 286 | 225 => 287 | 224 => 288 | 267 => 289 | 266 => 303 | 314 => 304 | n => n, fun | 9 => 9 | 3 => 3 | 4 => 4 | 5 => 5 | 46 => 316 | 146 => 358 | 51 => 357 | n => n, fun | 1 => 0 | n => n⟩
theorem sh_lays219 : Go.Proofs.Lays.n219 Tryz.prog sh_lays219_ren := {
  mixed := by kernel_rfl
  f217 := Tryz.func286.trans (congrArg some (by kernel_rfl))
  f219 := Tryz.func257.trans (congrArg some (by kernel_rfl))
  f224 := Tryz.func288.trans (congrArg some (by kernel_rfl))
  f225 := Tryz.func287.trans (congrArg some (by kernel_rfl))
  f266 := Tryz.func303.trans (congrArg some (by kernel_rfl))
  f267 := Tryz.func289.trans (congrArg some (by kernel_rfl))
  f314 := Tryz.func304.trans (congrArg some (by kernel_rfl))
  t3 := Tryz.underlying3
  a3 := Tryz.isAgg3
  z3 := Tryz.sizeOf3
  v3 := Tryz.zeroValue3
  t4 := Tryz.underlying4
  a4 := Tryz.isAgg4
  z4 := Tryz.sizeOf4
  v4 := Tryz.zeroValue4
  t5 := Tryz.underlying5
  a5 := Tryz.isAgg5
  z5 := Tryz.sizeOf5
  v5 := Tryz.zeroValue5
  t9 := Tryz.underlying9
  a9 := Tryz.isAgg9
  z9 := Tryz.sizeOf9
  v9 := Tryz.zeroValue9
  t46 := Tryz.underlying316
  a46 := Tryz.isAgg316
  z46 := Tryz.sizeOf316
  v46 := Tryz.zeroValue316
  t51 := Tryz.underlying357
  a51 := Tryz.isAgg357
  z51 := Tryz.sizeOf357
  v51 := Tryz.zeroValue357
  t146 := Tryz.underlying358
  a146 := Tryz.isAgg358
  z146 := Tryz.sizeOf358
  v146 := Tryz.zeroValue358
  g1 := by kernel_rfl }
theorem sh_stringslite_Index_one (s : ByteArray) (c : UInt8) (w : World) :
    Calls Tryz.prog 257 #[.string s, .string ⟨#[c]⟩] w fun e w' => e = .returned (.int .i64 (Lib.indexByte s.data.toList c)) ∧ w' = w := Any.stringslite_Index_one sh_lays219 s c w
def sh_lays143_ren : Go.Shelf.Ren := ⟨fun | 143 => 249 | 219 => 257 | 217 => 286 | 225 => 287 | 224 => 288 | 267 => 289 | 266 => 303 | 314 => 304 | n => n, fun | 9 => 9 | 3 => 3 | 4 => 4 | 5 => 5 | 46 => 316 | 146 => 358 | 51 => 357 | n => n, fun | 1 => 0 | n => n⟩
theorem sh_lays143 : Go.Proofs.Lays.n143 Tryz.prog sh_lays143_ren := {
  mixed := by kernel_rfl
  f143 := Tryz.func249.trans (congrArg some (by kernel_rfl))
  f217 := Tryz.func286.trans (congrArg some (by kernel_rfl))
  f219 := Tryz.func257.trans (congrArg some (by kernel_rfl))
  f224 := Tryz.func288.trans (congrArg some (by kernel_rfl))
  f225 := Tryz.func287.trans (congrArg some (by kernel_rfl))
  f266 := Tryz.func303.trans (congrArg some (by kernel_rfl))
  f267 := Tryz.func289.trans (congrArg some (by kernel_rfl))
  f314 := Tryz.func304.trans (congrArg some (by kernel_rfl))
  t3 := Tryz.underlying3
  a3 := Tryz.isAgg3
  z3 := Tryz.sizeOf3
  v3 := Tryz.zeroValue3
  t4 := Tryz.underlying4
  a4 := Tryz.isAgg4
  z4 := Tryz.sizeOf4
  v4 := Tryz.zeroValue4
  t5 := Tryz.underlying5
  a5 := Tryz.isAgg5
  z5 := Tryz.sizeOf5
  v5 := Tryz.zeroValue5
  t9 := Tryz.underlying9
  a9 := Tryz.isAgg9
  z9 := Tryz.sizeOf9
  v9 := Tryz.zeroValue9
  t46 := Tryz.underlying316
  a46 := Tryz.isAgg316
  z46 := Tryz.sizeOf316
  v46 := Tryz.zeroValue316
  t51 := Tryz.underlying357
  a51 := Tryz.isAgg357
  z51 := Tryz.sizeOf357
  v51 := Tryz.zeroValue357
  t146 := Tryz.underlying358
  a146 := Tryz.isAgg358
  z146 := Tryz.sizeOf358
  v146 := Tryz.zeroValue358
  g1 := by kernel_rfl }
theorem sh_strings_Index_one (s : ByteArray) (c : UInt8) (w : World) :
    Calls Tryz.prog 249 #[.string s, .string ⟨#[c]⟩] w fun e w' => e = .returned (.int .i64 (Lib.indexByte s.data.toList c)) ∧ w' = w := Any.strings_Index_one sh_lays143 s c w
def sh_lays138_ren : Go.Shelf.Ren := ⟨fun | 138 => 248 | 195 => 277 | 218 => 278 | 143 => 249 | 219 => 257 | 217 => 286 | 225 => 287 | 224 => 288 | 267 => 289 | 266 => 303 | 314 => 304 | n => n, fun | 9 => 9 | 3 => 3 | 4 => 4 | 5 => 5 | 0 => 0 | 46 => 316 | 146 => 358 | 51 => 357 | n => n, fun | 1 => 0 | n => n⟩
theorem sh_lays138 : Go.Proofs.Lays.n138 Tryz.prog sh_lays138_ren := {
  mixed := by kernel_rfl
  f138 := Tryz.func248.trans (congrArg some (by kernel_rfl))
  f143 := Tryz.func249.trans (congrArg some (by kernel_rfl))
  f195 := Tryz.func277.trans (congrArg some (by kernel_rfl))
  f217 := Tryz.func286.trans (congrArg some (by kernel_rfl))
  f218 := Tryz.func278.trans (congrArg some (by kernel_rfl))
  f219 := Tryz.func257.trans (congrArg some (by kernel_rfl))
  f224 := Tryz.func288.trans (congrArg some (by kernel_rfl))
  f225 := Tryz.func287.trans (congrArg some (by kernel_rfl))
  f266 := Tryz.func303.trans (congrArg some (by kernel_rfl))
  f267 := Tryz.func289.trans (congrArg some (by kernel_rfl))
  f314 := Tryz.func304.trans (congrArg some (by kernel_rfl))
  t0 := Tryz.underlying0
  a0 := Tryz.isAgg0
  z0 := Tryz.sizeOf0
  v0 := Tryz.zeroValue0
  t3 := Tryz.underlying3
  a3 := Tryz.isAgg3
  z3 := Tryz.sizeOf3
  v3 := Tryz.zeroValue3
  t4 := Tryz.underlying4
  a4 := Tryz.isAgg4
  z4 := Tryz.sizeOf4
  v4 := Tryz.zeroValue4
  t5 := Tryz.underlying5
  a5 := Tryz.isAgg5
  z5 := Tryz.sizeOf5
  v5 := Tryz.zeroValue5
  t9 := Tryz.underlying9
  a9 := Tryz.isAgg9
  z9 := Tryz.sizeOf9
  v9 := Tryz.zeroValue9
  t46 := Tryz.underlying316
  a46 := Tryz.isAgg316
  z46 := Tryz.sizeOf316
  v46 := Tryz.zeroValue316
  t51 := Tryz.underlying357
  a51 := Tryz.isAgg357
  z51 := Tryz.sizeOf357
  v51 := Tryz.zeroValue357
  t146 := Tryz.underlying358
  a146 := Tryz.isAgg358
  z146 := Tryz.sizeOf358
  v146 := Tryz.zeroValue358
  g1 := by kernel_rfl }
theorem sh_strings_Count_one (s : ByteArray) (c : UInt8) (w : World) :
    Calls Tryz.prog 248 #[.string s, .string ⟨#[c]⟩] w fun e w' => e = .returned (.int .i64 (Lib.countByte s.data.toList c)) ∧ w' = w := Any.strings_Count_one sh_lays138 s c w
def sh_lays221_ren : Go.Shelf.Ren := ⟨fun | 221 => 185 | 268 => 247 | 138 => 248 | 143 => 249 | 195 => 277 | 197 => 256 | 218 => 278 | 219 => 257 | 260 => 285 | 217 => 286 | 225 => 287 | 224 => 288 | 267 => 289 | 266 => 303 | 314 => 304 | n => n, fun | 9 => 9 | 3 => 3 | 31 => 158 | 4 => 4 | 0 => 0 | 105 => 310 | 21 => 21 | 5 => 5 | 46 => 316 | 119 => 353 | 139 => 356 | 138 => 355 | 146 => 358 | 51 => 357 | n => n, fun | 1 => 0 | 3 => 3 | 4 => 4 | n => n⟩
theorem sh_lays221 : Go.Proofs.Lays.n221 Tryz.prog sh_lays221_ren := {
  mixed := by kernel_rfl
  f138 := Tryz.func248.trans (congrArg some (by kernel_rfl))
  f143 := Tryz.func249.trans (congrArg some (by kernel_rfl))
  f195 := Tryz.func277.trans (congrArg some (by kernel_rfl))
  f197 := Tryz.func256.trans (congrArg some (by kernel_rfl))
  f217 := Tryz.func286.trans (congrArg some (by kernel_rfl))
  f218 := Tryz.func278.trans (congrArg some (by kernel_rfl))
  f219 := Tryz.func257.trans (congrArg some (by kernel_rfl))
  f221 := Tryz.func185.trans (congrArg some (by kernel_rfl))
  f224 := Tryz.func288.trans (congrArg some (by kernel_rfl))
  f225 := Tryz.func287.trans (congrArg some (by kernel_rfl))
  f260 := Tryz.func285.trans (congrArg some (by kernel_rfl))
  f266 := Tryz.func303.trans (congrArg some (by kernel_rfl))
  f267 := Tryz.func289.trans (congrArg some (by kernel_rfl))
  f268 := Tryz.func247.trans (congrArg some (by kernel_rfl))
  f314 := Tryz.func304.trans (congrArg some (by kernel_rfl))
  t0 := Tryz.underlying0
  a0 := Tryz.isAgg0
  z0 := Tryz.sizeOf0
  v0 := Tryz.zeroValue0
  t3 := Tryz.underlying3
  a3 := Tryz.isAgg3
  z3 := Tryz.sizeOf3
  v3 := Tryz.zeroValue3
  t4 := Tryz.underlying4
  a4 := Tryz.isAgg4
  z4 := Tryz.sizeOf4
  v4 := Tryz.zeroValue4
  t5 := Tryz.underlying5
  a5 := Tryz.isAgg5
  z5 := Tryz.sizeOf5
  v5 := Tryz.zeroValue5
  t9 := Tryz.underlying9
  a9 := Tryz.isAgg9
  z9 := Tryz.sizeOf9
  v9 := Tryz.zeroValue9
  t21 := Tryz.underlying21
  a21 := Tryz.isAgg21
  z21 := Tryz.sizeOf21
  v21 := Tryz.zeroValue21
  t31 := Tryz.underlying158
  a31 := Tryz.isAgg158
  z31 := Tryz.sizeOf158
  v31 := Tryz.zeroValue158
  t46 := Tryz.underlying316
  a46 := Tryz.isAgg316
  z46 := Tryz.sizeOf316
  v46 := Tryz.zeroValue316
  t51 := Tryz.underlying357
  a51 := Tryz.isAgg357
  z51 := Tryz.sizeOf357
  v51 := Tryz.zeroValue357
  t105 := Tryz.underlying310
  a105 := Tryz.isAgg310
  z105 := Tryz.sizeOf310
  v105 := Tryz.zeroValue310
  t119 := Tryz.underlying353
  a119 := Tryz.isAgg353
  z119 := Tryz.sizeOf353
  t138 := Tryz.underlying355
  a138 := Tryz.isAgg355
  z138 := Tryz.sizeOf355
  v138 := Tryz.zeroValue355
  t139 := Tryz.underlying356
  a139 := Tryz.isAgg356
  z139 := Tryz.sizeOf356
  v139 := Tryz.zeroValue356
  t146 := Tryz.underlying358
  a146 := Tryz.isAgg358
  z146 := Tryz.sizeOf358
  v146 := Tryz.zeroValue358
  g1 := by kernel_rfl
  g3 := by kernel_rfl
  g4 := by kernel_rfl }
end Go.Pw
set_option linter.unusedVariables false
set_option linter.unusedSimpArgs false
namespace Go.Pw
open Go Go.Lib
abbrev By := List UInt8
abbrev bs (l : By) : ByteArray := ⟨l.toArray⟩
theorem bs_eta (s : ByteArray) : bs s.data.toList = s := by cases s; simp [bs]
theorem bs_size (l : By) : (bs l).size = l.length := by simp [bs, ByteArray.size]
def cutG (c : UInt8) : By → By → List By
  | acc, [] => [acc]
  | acc, x :: l => if x = c then acc :: cutG c [] l else cutG c (acc ++ [x]) l
theorem cutG_hit {c : UInt8} : ∀ {p acc r : By}, c ∉ p → cutG c acc (p ++ c :: r) = (acc ++ p) :: cutG c [] r
  | [], acc, r, _ => by simp [cutG]
  | x :: p, acc, r, h => by
    rw [List.mem_cons, not_or] at h
    rw [List.cons_append, cutG, if_neg (fun e => h.1 e.symm), cutG_hit h.2]; simp
theorem cutG_miss {c : UInt8} : ∀ {p acc : By}, c ∉ p → cutG c acc p = [acc ++ p]
  | [], acc, _ => by simp [cutG]
  | x :: p, acc, h => by
    rw [List.mem_cons, not_or] at h
    rw [cutG, if_neg (fun e => h.1 e.symm), cutG_miss h.2]; simp
theorem cutG_ne {c : UInt8} : ∀ {l acc : By}, cutG c acc l ≠ []
  | [], acc => by simp [cutG]
  | x :: l, acc => by
    rw [cutG]; split
    · simp
    · exact cutG_ne
theorem ix_cases (c : UInt8) : ∀ (l : By), (indexByte l c = -1 ∧ c ∉ l) ∨ ∃ p r, l = p ++ c :: r ∧ c ∉ p ∧ indexByte l c = p.length
  | [] => .inl ⟨rfl, by simp⟩
  | b :: l => by
    by_cases h : b = c
    · subst h
      exact .inr ⟨[], l, rfl, by simp, by simp [indexByte]⟩
    · rcases ix_cases c l with ⟨h1, h2⟩ | ⟨p, r, h1, h2, h3⟩
      · exact .inl ⟨by simp [indexByte, h, h1], by simp only [List.mem_cons, not_or]; exact ⟨fun e => h e.symm, h2⟩⟩
      · refine .inr ⟨b :: p, r, by rw [h1]; rfl, by simp only [List.mem_cons, not_or]; exact ⟨fun e => h e.symm, h2⟩, ?_⟩
        have : ¬ ((p.length : Int) = -1) := by omega
        simp [indexByte, h, h3, this]
theorem index_byte (c : UInt8) : ∀ (l : By), index l [c] = indexByte l c
  | [] => rfl
  | b :: l => by
    have ih := index_byte c l
    by_cases h : b = c
    · subst h; simp [index, indexByte, List.isPrefixOf]
    · have h' : ¬ c = b := fun e => h e.symm
      have hp : List.isPrefixOf [c] (b :: l) = false := by simp [List.isPrefixOf, h']
      rw [index, indexByte, hp, ih]
      simp [h]
theorem split_cut {c : UInt8} : ∀ (n : Nat) (l : By), l.count c = n → splitK [c] 0 n l = cutG c [] l
  | 0, l, h => by
    rw [splitK, cutG_miss (List.count_eq_zero.1 h)]; simp
  | n + 1, l, h => by
    rcases ix_cases c l with ⟨_, h2⟩ | ⟨p, r, h1, h2, h3⟩
    · rw [List.count_eq_zero.2 h2] at h; omega
    · have hi : index l [c] = p.length := by rw [index_byte]; exact h3
      have e1 : l.take (p.length + 0) = p := by rw [h1]; simp
      have e2 : l.drop (p.length + 1) = r := by
        rw [h1, ← List.drop_drop, List.drop_left]; rfl
      have hc : r.count c = n := by
        rw [h1, List.count_append, List.count_cons_self, List.count_eq_zero.2 h2] at h; omega
      have hne : ((p.length : Int) == -1) = false := by
        rw [beq_eq_false_iff_ne]; omega
      rw [splitK, hi, hne]
      simp only [Bool.false_eq_true, if_false, Int.toNat_natCast, List.length_singleton]
      rw [e1, e2, split_cut n r hc, h1, cutG_hit h2]; simp
def jnG (c : UInt8) : List By → By
  | [] => []
  | [x] => x
  | x :: y :: r => x ++ c :: jnG c (y :: r)
theorem jn_cons {c : UInt8} {x : By} {r : List By} (h : r ≠ []) : jnG c (x :: r) = x ++ c :: jnG c r := by
  cases r with
  | nil => exact absurd rfl h
  | cons y r => rfl
theorem jn_app {c : UInt8} {y : By} : ∀ {l : List By}, l ≠ [] → jnG c (l ++ [y]) = jnG c l ++ c :: y
  | [], h => absurd rfl h
  | [x], _ => rfl
  | x :: z :: r, _ => by
    have h := jn_app (c := c) (y := y) (l := z :: r) (by simp)
    have e1 := jn_cons (c := c) (x := x) (r := z :: r ++ [y]) (by simp)
    have e2 := jn_cons (c := c) (x := x) (r := z :: r) (by simp)
    rw [List.cons_append, e1, h, e2]; simp
theorem join_jn {c : UInt8} : ∀ (l : List By), join l [c] = jnG c l
  | [] => rfl
  | x :: r => by
    have key : ∀ (r : List By) (x : By), x ++ joinTail [c] r = jnG c (x :: r) := fun r => by
      induction r with
      | nil => intro x; simp [joinTail, jnG]
      | cons y r ih =>
        intro x
        rw [jn_cons (by simp), ← ih y]
        simp [joinTail]
    rw [join_cons, key]
theorem cut_jn {c : UInt8} : ∀ {l : List By}, l ≠ [] → (∀ x ∈ l, c ∉ x) → cutG c [] (jnG c l) = l
  | [], h, _ => absurd rfl h
  | [x], _, h => by rw [jnG, cutG_miss (h x (by simp))]; rfl
  | x :: y :: r, _, h => by
    rw [jn_cons (by simp), cutG_hit (h x (by simp)), cut_jn (by simp) (fun z hz => h z (List.mem_cons_of_mem _ hz))]; rfl
abbrev i64P (n : Int) : Prop := -9223372036854775808 ≤ n ∧ n ≤ 9223372036854775807
abbrev isDg (b : UInt8) : Prop := 48 ≤ b.toNat ∧ b.toNat ≤ 57
theorem dg_nat {d : Nat} (h : d < 10) : (UInt8.ofNat (48 + d)).toNat = 48 + d := UInt8.toNat_ofNat_of_lt (show 48 + d < 256 by omega)
theorem dec_big {u : Nat} (h : ¬ u < 10) : decDigits u = decDigits (u / 10) ++ [UInt8.ofNat (48 + u % 10)] := by rw [decDigits, dif_neg h]
theorem dec_ne (u : Nat) : decDigits u ≠ [] := by
  by_cases h : u < 10
  · rw [decDigits_one h]; simp
  · rw [dec_big h]; simp
theorem dec_dg (u : Nat) : ∀ b ∈ decDigits u, isDg b := by
  induction u using Nat.strongRecOn with
  | _ u ih =>
    intro b hb
    by_cases h : u < 10
    · rw [decDigits_one h, List.mem_singleton] at hb; subst hb
      have := dg_nat h; omega
    · rw [dec_big h, List.mem_append, List.mem_singleton] at hb
      rcases hb with h1 | h1
      · exact ih (u / 10) (by omega) b h1
      · subst h1
        have := dg_nat (d := u % 10) (by omega); omega
theorem dec_head {u : Nat} (h0 : 0 < u) : ∃ b r, decDigits u = b :: r ∧ b.toNat ≠ 48 := by
  induction u using Nat.strongRecOn with
  | _ u ih =>
    by_cases h : u < 10
    · rw [decDigits_one h]
      exact ⟨_, _, rfl, by rw [dg_nat h]; omega⟩
    · obtain ⟨b, r, h1, h2⟩ := ih (u / 10) (by omega) (by omega)
      rw [dec_big h, h1]
      exact ⟨b, _, rfl, h2⟩
def dgS (a : Nat) (b : UInt8) : Nat := 10 * a + (b.toNat - 48)
def dgV (acc : Nat) (l : List UInt8) : Nat := l.foldl dgS acc
theorem dgV_nil (acc : Nat) : dgV acc [] = acc := by rw [dgV, List.foldl_nil]
theorem dgV_cons (acc : Nat) (b : UInt8) (l : List UInt8) : dgV acc (b :: l) = dgV (10 * acc + (b.toNat - 48)) l := by rw [dgV, List.foldl_cons, dgS, dgV]
theorem dgV_app (b : UInt8) (l : List UInt8) : ∀ acc : Nat, dgV acc (l ++ [b]) = 10 * dgV acc l + (b.toNat - 48) := by
  induction l with
  | nil => intro acc; rw [List.nil_append, dgV_cons, dgV_nil, dgV_nil]
  | cons x l ih =>
    intro acc
    rw [List.cons_append, dgV_cons, dgV_cons]
    exact ih _
theorem dgV_dec (u : Nat) : dgV 0 (decDigits u) = u := by
  induction u using Nat.strongRecOn with
  | _ u ih =>
    by_cases h : u < 10
    · rw [decDigits_one h, dgV_cons, dgV_nil, dg_nat h]; omega
    · rw [dec_big h, dgV_app, ih (u / 10) (by omega), dg_nat (by omega)]; omega
theorem dgV_le (l : List UInt8) : ∀ acc : Nat, acc * 10 ^ l.length ≤ dgV acc l := by
  induction l with
  | nil => intro acc; rw [dgV_nil]; simp
  | cons b l ih =>
    intro acc
    have h := ih (10 * acc + (b.toNat - 48))
    rw [dgV_cons, List.length_cons, Nat.pow_succ]
    generalize 10 ^ l.length = P at *
    have e : acc * (P * 10) = 10 * acc * P := by
      rw [Nat.mul_comm P 10, ← Nat.mul_assoc, Nat.mul_comm acc 10]
    rw [e]
    exact Nat.le_trans (Nat.mul_le_mul_right _ (Nat.le_add_right _ _)) h
theorem dgV_lt (l : List UInt8) : ∀ acc : Nat, (∀ b ∈ l, isDg b) → dgV acc l < (acc + 1) * 10 ^ l.length := by
  induction l with
  | nil => intro acc _; rw [dgV_nil]; simp
  | cons b l ih =>
    intro acc h
    have hb := h b (by simp)
    have h1 := ih (10 * acc + (b.toNat - 48)) (fun x hx => h x (by simp [hx]))
    rw [dgV_cons, List.length_cons, Nat.pow_succ]
    generalize 10 ^ l.length = P at *
    have e : (acc + 1) * (P * 10) = (10 * (acc + 1)) * P := by
      rw [Nat.mul_comm P 10, ← Nat.mul_assoc, Nat.mul_comm (acc + 1) 10]
    rw [e]
    exact Nat.lt_of_lt_of_le h1 (Nat.mul_le_mul_right _ (by omega))
theorem dec_dgV : ∀ (n : Nat) (l : By), l.length = n → l ≠ [] → (∀ b ∈ l, isDg b) → (l.length = 1 ∨ ∃ b r, l = b :: r ∧ b.toNat ≠ 48) → decDigits (dgV 0 l) = l := by
  intro n
  induction n with
  | zero => intro l hl hne _ _; exact absurd (List.length_eq_zero_iff.1 hl) hne
  | succ n ih =>
    intro l hl hne hd hh
    obtain ⟨p, b, rfl⟩ : ∃ p b, l = p ++ [b] := ⟨l.dropLast, l.getLast hne, (List.dropLast_concat_getLast hne).symm⟩
    have hb := hd b (by simp)
    have hp : ∀ x ∈ p, isDg x := fun x hx => hd x (by simp [hx])
    rw [dgV_app]
    have hof : UInt8.ofNat (48 + (b.toNat - 48)) = b := by
      rw [show 48 + (b.toNat - 48) = b.toNat by omega]; exact UInt8.ofNat_toNat
    by_cases hpe : p = []
    · subst hpe
      rw [dgV_nil, Nat.mul_zero, Nat.zero_add, decDigits_one (by omega), hof]; rfl
    · have hpl : p.length = n := by simp at hl; omega
      obtain ⟨x, r, hx⟩ : ∃ x r, p = x :: r := by cases p with | nil => exact absurd rfl hpe | cons x r => exact ⟨x, r, rfl⟩
      have hx0 : x.toNat ≠ 48 := by
        rcases hh with h | ⟨y, s, h1, h2⟩
        · simp [hx] at h
        · rw [hx] at h1; simp at h1; rw [h1.1]; exact h2
      have hpos : 0 < dgV 0 p := by
        rw [hx, dgV_cons]
        have h1 := dgV_le r (10 * 0 + (x.toNat - 48))
        have h2 := hp x (by simp [hx])
        have h3 : 0 < 10 ^ r.length := Nat.pos_of_ne_zero (by simp)
        have h4 : 0 < (10 * 0 + (x.toNat - 48)) * 10 ^ r.length := Nat.mul_pos (by omega) h3
        omega
      rw [dec_big (by omega), show (10 * dgV 0 p + (b.toNat - 48)) / 10 = dgV 0 p by omega, show (10 * dgV 0 p + (b.toNat - 48)) % 10 = b.toNat - 48 by omega, hof,
        ih p hpl hpe hp (.inr ⟨x, r, hx, hx0⟩)]
theorem itoa_neg {n : Int} (h : n < 0) : itoa n = 45 :: decDigits n.natAbs := by rw [itoa, if_pos h]
theorem itoa_nn {n : Int} (h : 0 ≤ n) : itoa n = decDigits n.toNat := by rw [itoa, if_neg (by omega)]
theorem itoa_ne (n : Int) : itoa n ≠ [] := by
  rw [itoa]; split
  · simp
  · exact dec_ne _
theorem itoa_ch {n : Int} : ∀ b ∈ itoa n, b = 45 ∨ isDg b := fun b hb => by
  rw [itoa] at hb
  split at hb
  · rcases List.mem_cons.1 hb with h | h
    · exact .inl h
    · exact .inr (dec_dg _ b h)
  · exact .inr (dec_dg _ b hb)
theorem itoa_no {n : Int} {c : UInt8} (h : c ≠ 45 ∧ ¬ isDg c) : c ∉ itoa n := fun hc => by
  rcases itoa_ch c hc with h1 | h1
  · exact h.1 h1
  · exact h.2 h1
theorem parse_dg : ∀ (l : By) (acc : Nat), (∀ b ∈ l, isDg b) → dgV acc l < 18446744073709551616 → parseUint10 acc l = .ok (dgV acc l)
  | [], acc, _, _ => rfl
  | b :: l, acc, h, hlt => by
    have hb := h b (by simp)
    have hle := dgV_le l (10 * acc + (b.toNat - 48))
    have h1 : 1 ≤ 10 ^ l.length := Nat.one_le_pow _ _ (by decide)
    have h2 := Nat.mul_le_mul_left (10 * acc + (b.toNat - 48)) h1
    rw [dgV_cons] at hlt
    rw [parseUint10, if_pos hb, if_neg (by omega), if_neg (by omega), Nat.mul_comm acc 10, parse_dg l _ (fun x hx => h x (by simp [hx])) hlt, dgV_cons]
theorem atoi_itoa {n : Int} (h : i64P n) : atoiAll (itoa n) = .ok n := by
  by_cases hn : n < 0
  · have hp := parse_dg (decDigits n.natAbs) 0 (dec_dg _) (by rw [dgV_dec]; omega)
    rw [dgV_dec] at hp
    rw [itoa_neg hn, atoiAll]
    have e45 : (45 : UInt8).toNat = 45 := rfl
    simp only [e45, or_true, if_true, parseMag, if_neg (dec_ne _), hp, not_true, false_and, if_false, true_and]
    rw [if_neg (by omega)]
    congr 1; omega
  · obtain ⟨c, r, hc⟩ : ∃ c r, itoa n = c :: r := by
      cases hi : itoa n with
      | nil => exact absurd hi (itoa_ne n)
      | cons c r => exact ⟨c, r, rfl⟩
    have hdc : decDigits n.toNat = c :: r := by rw [← itoa_nn (by omega)]; exact hc
    have hcd := dec_dg n.toNat c (by rw [hdc]; simp)
    have hcd1 : 48 ≤ c.toNat := hcd.1
    have hcd2 : c.toNat ≤ 57 := hcd.2
    have hp := parse_dg (decDigits n.toNat) 0 (dec_dg _) (by rw [dgV_dec]; omega)
    rw [dgV_dec, hdc] at hp
    rw [hc, atoiAll]
    have n1 : ¬ (c.toNat = 43 ∨ c.toNat = 45) := by omega
    have n2 : ¬ c.toNat = 45 := by omega
    have n3 : ¬ c.toNat = 43 := by omega
    simp only [n2, n3, or_self, if_false, parseMag, if_neg (List.cons_ne_nil c r), hp, not_false_iff, true_and, false_and]
    rw [if_neg (by omega)]
    congr 1; omega
abbrev dgOk (r : By) (d : Int) (z : Prop) : Prop := r ≠ [] ∧ (r.length : Int) ≤ d ∧ (r.head? = some 48 → z) ∧ ∀ b ∈ r, isDg b
def numV (s : By) (d : Int) : Option Int :=
  if s.head? = some 45 then (if dgOk s.tail d False then some (-(dgV 0 s.tail : Int)) else none)
  else if dgOk s d (s.length = 1) then some (dgV 0 s : Int) else none
theorem numV_neg {r : By} {d : Int} : numV (45 :: r) d = if dgOk r d False then some (-(dgV 0 r : Int)) else none := by
  rw [numV, if_pos (by rfl)]; rfl
theorem pow18 {k : Nat} {d : Int} (hd : d ≤ 18) (hk : (k : Int) ≤ d) : (10 : Nat) ^ k ≤ 1000000000000000000 := by
  have : k ≤ 18 := by omega
  exact Nat.le_trans (Nat.pow_le_pow_right (by decide) this) (by decide)
theorem head_dec {u : Nat} : (decDigits u).head? = some 48 → u = 0 := fun h => by
  refine Decidable.byContradiction fun h0 => ?_
  obtain ⟨b, r, h1, h2⟩ := dec_head (u := u) (by omega)
  rw [h1] at h
  simp only [List.head?_cons, Option.some.injEq] at h
  rw [h] at h2; exact h2 rfl
theorem head_n45 {u : Nat} : (decDigits u).head? ≠ some 45 := fun h => by
  cases hd : decDigits u with
  | nil => exact dec_ne u hd
  | cons b r =>
    rw [hd] at h
    simp only [List.head?_cons, Option.some.injEq] at h
    have := dec_dg u b (by rw [hd]; simp)
    rw [h] at this; revert this; decide
theorem dec0 : decDigits 0 = [48] := by rw [decDigits_one (by decide)]; rfl
theorem numV_iff {s : By} {d n : Int} (hd : d ≤ 18) : numV s d = some n ↔ s = itoa n ∧ ((decDigits n.natAbs).length : Int) ≤ d := by
  constructor
  · intro h
    rw [numV] at h
    split at h
    · rename_i h45
      obtain ⟨r, rfl⟩ : ∃ r, s = 45 :: r := by
        cases s with
        | nil => simp at h45
        | cons b r => simp only [List.head?_cons, Option.some.injEq] at h45; exact ⟨r, by rw [h45]⟩
      split at h
      · rename_i hok
        simp only [List.tail_cons] at hok h
        obtain ⟨h1, h2, h3, h4⟩ := hok
        simp only [Option.some.injEq] at h
        have hdec : decDigits (dgV 0 r) = r := by
          refine dec_dgV _ r rfl h1 h4 (.inr ?_)
          cases r with
          | nil => exact absurd rfl h1
          | cons b r =>
            refine ⟨b, r, rfl, fun hb => h3 ?_⟩
            simp only [List.head?_cons, Option.some.injEq]
            exact UInt8.toNat_inj.1 (by rw [hb]; rfl)
        have hpos : 0 < dgV 0 r := by
          refine Nat.pos_of_ne_zero fun h0 => h3 ?_
          rw [h0, dec0] at hdec; rw [← hdec]; rfl
        have e : n.natAbs = dgV 0 r := by omega
        rw [itoa_neg (by omega), e, hdec]
        exact ⟨rfl, h2⟩
      · cases h
    · split at h
      · rename_i hok
        obtain ⟨h1, h2, h3, h4⟩ := hok
        simp only [Option.some.injEq] at h
        have hdec : decDigits (dgV 0 s) = s := by
          refine dec_dgV _ s rfl h1 h4 ?_
          by_cases hh : s.head? = some 48
          · exact .inl (h3 hh)
          · right
            cases s with
            | nil => exact absurd rfl h1
            | cons b r =>
              refine ⟨b, r, rfl, fun hb => hh ?_⟩
              simp only [List.head?_cons, Option.some.injEq]
              exact UInt8.toNat_inj.1 (by rw [hb]; rfl)
        have e : n.natAbs = dgV 0 s := by omega
        rw [itoa_nn (by omega), show n.toNat = dgV 0 s by omega, e, hdec]
        exact ⟨rfl, h2⟩
      · cases h
  · rintro ⟨rfl, h2⟩
    by_cases hn : n < 0
    · have h := numV_neg (r := decDigits n.natAbs) (d := d)
      rw [if_pos ⟨dec_ne _, h2, fun h => by have := head_dec h; omega, dec_dg _⟩, dgV_dec] at h
      rw [itoa_neg hn, h]
      congr 1; omega
    · have en : n.toNat = n.natAbs := by omega
      rw [itoa_nn (by omega), en, numV, if_neg head_n45, if_pos ⟨dec_ne _, h2, fun h => (congrArg (fun u => (decDigits u).length) (head_dec h)).trans (congrArg List.length dec0), dec_dg _⟩, dgV_dec, show ((n.natAbs : Nat) : Int) = n by omega]
theorem numV_i64 {s : By} {d n : Int} (hd : d ≤ 18) (h : numV s d = some n) : i64P n ∧ n.natAbs < 1000000000000000000 := by
  obtain ⟨_, h2⟩ := (numV_iff hd).1 h
  have h3 := lt_pow_nDigits n.natAbs
  rw [← decDigits_length] at h3
  have h4 := pow18 hd h2
  exact ⟨by constructor <;> omega, by omega⟩
theorem nat_iff {s : By} {d n : Int} (hd : d ≤ 18) : (atoiAll s = .ok n ∧ 0 ≤ n ∧ itoa n = s ∧ (s.length : Int) ≤ d) ↔ numV s d = some n ∧ 0 ≤ n := by
  constructor
  · rintro ⟨h1, h2, h3, h4⟩
    refine ⟨(numV_iff hd).2 ⟨h3.symm, ?_⟩, h2⟩
    rw [← h3, itoa_nn h2] at h4
    rw [show n.natAbs = n.toNat by omega]; exact h4
  · rintro ⟨h1, h2⟩
    have hi := (numV_i64 hd h1).1
    obtain ⟨h3, h4⟩ := (numV_iff hd).1 h1
    refine ⟨by rw [h3]; exact atoi_itoa hi, h2, h3.symm, ?_⟩
    rw [h3, itoa_nn h2, show n.toNat = n.natAbs by omega]; exact h4
end Go.Pw
set_option linter.unusedSimpArgs false
set_option linter.unusedVariables false
set_option maxRecDepth 20000
namespace Go.Pw
open Go Go.RowKit Go.Lib Go.Sort
open Go.Proofs
abbrev svD (l : By) : D := .v (.string (bs l))
abbrev sv (l : By) : V := .c (.d (svD l))
abbrev rS (l : By) : List D := [svD l]
abbrev sts (l : List By) : C := slv 1 rS [] l
abbrev atV (s : By) : V := match atoiAll s with
  | .ok v => .tup [vi .i64 v, .c (.d (.v .nilIface))]
  | Lib.NumEnd.syntax => .tup [vi .i64 0, .c .er]
  | .range => .tup [vi .i64 (atoiSat s), .c .er]
theorem VEq.str {a b : ByteArray} (h : a = b) : VEq (.c (.d (.v (.string a)))) (.c (.d (.v (.string b)))) := by subst h; exact .refl _
theorem CEq.str {a b : ByteArray} (h : a = b) : CEq (.d (.v (.string a))) (.d (.v (.string b))) := by subst h; exact .refl _
theorem RepV.vv {Γ : Cx} {w : World} {x u : Value} (h : RepV Γ w (.c (.d (.v x))) u) : u = x := by
  cases h with | c _ _ h => cases h; rfl
theorem RepV.dv {Γ : Cx} {w : World} {x : Value} (h : one x = true) : RepV Γ w (.c (.d (.v x))) x := .c _ _ (.v _ h)
theorem below_sh (w : World) (k : Nat) (os : Array Obj) : Below w.heap.size w (grow (w.drewN k) os) :=
  ⟨rfl, rfl, rfl, by show w.heap.size ≤ (w.heap ++ os).size; rw [Array.size_append]; omega, fun j hj => Array.getElem?_append_left hj⟩
theorem C181 {n : Int} : i64P n → PFD Tryz.prog 181 [vi .i64 n] (sv (itoa n)) := fun hn => by
  refine pfd_below Tryz.call181 fun Γ w us hst hr => ?_
  obtain ⟨u, rfl, hu⟩ := hr.one
  cases hu.vv
  obtain ⟨W0, ⟨⟨t, fr, ht⟩, _⟩, _, hb⟩ := hst.lay.cell
  refine (sh_strconv_Itoa n hn.1 hn.2 w ⟨t, fr, (hb 5 (Array.getElem?_eq_some_iff.1 ht).1).trans ht⟩).mono ?_
  rintro e w' ⟨rfl, k, os, rfl⟩
  exact ⟨_, rfl, below_sh w k os, RepV.dv rfl⟩
theorem C249 {l : By} {c : UInt8} : PFD Tryz.prog 249 [sv l, .c (.d (.v (.string ⟨#[c]⟩)))] (vi .i64 (indexByte l c)) := by
  refine pfd_below Tryz.call249 fun Γ w us hst hr => ?_
  obtain ⟨u, v, rfl, hu, hv⟩ := hr.two
  cases hu.vv; cases hv.vv
  refine (sh_strings_Index_one (bs l) c w).mono ?_
  rintro e w' ⟨rfl, rfl⟩
  exact ⟨_, rfl, Below.refl _ _, RepV.dv rfl⟩
theorem C257 {l : By} {c : UInt8} : PFD Tryz.prog 257 [sv l, .c (.d (.v (.string ⟨#[c]⟩)))] (vi .i64 (indexByte l c)) := by
  refine pfd_below Tryz.call257 fun Γ w us hst hr => ?_
  obtain ⟨u, v, rfl, hu, hv⟩ := hr.two
  cases hu.vv; cases hv.vv
  refine (sh_stringslite_Index_one (bs l) c w).mono ?_
  rintro e w' ⟨rfl, rfl⟩
  exact ⟨_, rfl, Below.refl _ _, RepV.dv rfl⟩
theorem RepV.pair {Γ : Cx} {w : World} {a b : V} {x y : Value} (h1 : RepV Γ w a x) (h2 : RepV Γ w b y) : RepV Γ w (.tup [a, b]) (.tuple #[x, y]) := by
  refine .tup _ _ rfl fun i v u hv hu => ?_
  match i, hv, hu with
  | 0, hv, hu => cases hv; cases hu; exact h1
  | 1, hv, hu => cases hv; cases hu; exact h2
  | i + 2, hv, hu => cases hv
theorem C191 {s : By} : s.length ≤ 1000000 → PFD Tryz.prog 191 [sv s] (atV s) := fun hs => by
  refine pfd_below Tryz.call191 fun Γ w us hst hr => ?_
  obtain ⟨u, rfl, hu⟩ := hr.one
  cases hu.vv
  obtain ⟨W0, ⟨_, ⟨e3, h3, k3⟩, ⟨e4, h4, k4⟩⟩, hc, _⟩ := hst.lay.cell
  have hsz := bs_size s
  unfold atV
  match ha : atoiAll s with
  | .ok v =>
    refine (sh_strconv_Atoi_ok (bs s) (by omega) v ha w).mono ?_
    rintro e w' ⟨rfl, h⟩
    refine ⟨_, rfl, ?_, RepV.pair (RepV.dv rfl) (RepV.dv rfl)⟩
    rcases h with rfl | ⟨t, rfl⟩
    · exact Below.refl _ _
    · exact bytesWorld_below w 5 t
  | Lib.NumEnd.syntax =>
    refine (sh_strconv_Atoi_syntax (bs s) (by omega) ha e3 w (hc _ _ h3) k3).mono ?_
    rintro e w' ⟨N, rfl, _, _, hB⟩
    exact ⟨_, rfl, hB, RepV.pair (RepV.dv rfl) (.c _ _ ⟨_, _, rfl⟩)⟩
  | .range =>
    refine (sh_strconv_Atoi_range (bs s) (by omega) ha e4 w (hc _ _ h4) k4).mono ?_
    rintro e w' ⟨N, rfl, _, _, hB⟩
    exact ⟨_, rfl, hB, RepV.pair (RepV.dv rfl) (.c _ _ ⟨_, _, rfl⟩)⟩
theorem RepV.strs {Γ : Cx} {w : World} {l : List By} {u : Value} (h : RepV Γ w (.c (sts l)) u) : (∃ A c, u = .slice A 0 c ∧ l = []) ∨ ∃ b o c, u = .slice (some ⟨b, o, none⟩) l.length c ∧ l.length ≤ c ∧ Γ.I b ∧ ∀ j x, l[j]? = some x → w.cell? ⟨b, o + j, none⟩ = some (.string (bs x)) := by
  cases h with | c _ _ h =>
  replace h : RepD Γ.I w (.sl 1 l.length fun i => rS (l.getD i [])) u := h
  generalize hn : l.length = n at h
  cases h with
  | slE _ _ A c => exact .inl ⟨A, c, rfl, List.length_eq_zero_iff.1 hn⟩
  | sl _ _ _ ad c U hnc hI hs hc hr =>
    have key : ∀ j x, l[j]? = some x → w.cell? (ad.add j) = some (.string (bs x)) := fun j x hx => by
      have hj : j < n := by rw [← hn]; exact (List.getElem?_eq_some_iff.1 hx).1
      have h1 := hc j 0 (svD (l.getD j [])) hj rfl
      have h2 := hr j 0 (svD (l.getD j [])) hj rfl
      have e : l.getD j [] = x := by rw [List.getD, hx]; rfl
      rw [e] at h2
      rw [Nat.mul_one, Nat.add_zero] at h1
      rw [h1]
      revert h2; generalize U j 0 = y; intro h2
      cases h2; rfl
    by_cases h0 : l = []
    · subst h0; cases hn; exact .inl ⟨_, _, rfl, rfl⟩
    · obtain ⟨b, o, sp⟩ := ad
      have hx : ∃ x, l[0]? = some x := by cases l with | nil => exact absurd rfl h0 | cons x r => exact ⟨x, rfl⟩
      obtain ⟨x, hx⟩ := hx
      have h1 := key 0 x hx
      have hsp : sp = none := by
        cases sp with
        | none => rfl
        | some q =>
          simp only [World.cell?, Addr.add] at h1
          split at h1
          · simp at h1
          · cases h1
      subst hsp
      exact .inr ⟨b, o, c, rfl, hnc, hI, fun j x hx => by
        have h2 := key j x hx
        have e : (Addr.mk b o none).add j = ⟨b, o + j, none⟩ := by
          unfold Addr.add
          split
          · rename_i h0; subst h0; rfl
          · rfl
        rw [e] at h2; exact h2⟩
theorem C93 {l : List By} {c : UInt8} : (l.length ≤ 1000000 ∧ (jnG c l).length ≤ 1000000000) → PFD Tryz.prog 93 [.c (sts l), .c (.d (.v (.string ⟨#[c]⟩)))] (sv (jnG c l)) := fun ⟨hl, hj⟩ => by
  refine pfd_below Tryz.call93 fun Γ w us hst hr => ?_
  obtain ⟨u, v, rfl, hu, hv⟩ := hr.two
  cases hv.vv
  rcases hu.strs with ⟨A, cc, rfl, rfl⟩ | ⟨b, o, cc, rfl, hcc, hI, hcell⟩
  · refine (sh_strings_Join_none A cc ⟨#[c]⟩ w).mono ?_
    rintro e w' ⟨rfl, rfl⟩
    exact ⟨_, rfl, Below.refl _ _, RepV.dv rfl⟩
  · have e1 : ((l.map bs).map (·.data.toList)) = l := by
      rw [List.map_map]
      exact (List.map_congr_left (fun x _ => by simp [bs])).trans (List.map_id l)
    have e2 : Lib.join ((l.map bs).map (·.data.toList)) (ByteArray.mk #[c]).data.toList = jnG c l := by rw [e1]; exact join_jn l
    have h := sh_strings_Join b o cc (l.map bs) ⟨#[c]⟩ w (fun j x hx => by
      rw [List.getElem?_map, Option.map_eq_some_iff] at hx
      obtain ⟨y, hy, rfl⟩ := hx
      exact hcell j y hy) (hst.im b hI) (by rw [List.length_map]; omega) (by rw [List.length_map]; exact hcc) (by rw [e2]; omega)
    rw [e2, List.length_map] at h
    refine h.mono ?_
    rintro e w' ⟨rfl, hB⟩
    exact ⟨_, rfl, hB, RepV.dv rfl⟩
end Go.Pw
set_option linter.unusedSimpArgs false
set_option linter.unusedVariables false
set_option maxHeartbeats 2000000
namespace Go.Pw
set_option maxRecDepth 2000
open Go Go.Proofs A1 A2 A3 A4
abbrev stN (t : St8) : Int := unl ((isT t.t ∧ 0 ≤ t.w ∧ t.w ≤ 100000000) ∧ isN t.o) 2
abbrev stF (s : Si) (t : St8) : Int := fstE [(siE s).2, unl (0 ≤ t.p ∧ t.p ≤ (s.ho.length : Int) - 1) 6, stN t]
def stE (s : Si) (t : St8) : Int × Int := if stF s t = 0 then ascE t.d s.tk.length else (0, stF s t)
theorem stF_of {s : Si} {t : St8} {b : Bool} (h1 : b = decide ((isT t.t ∧ 0 ≤ t.w ∧ t.w ≤ 100000000) ∧ isN t.o)) : fstE [(siE s).2, unl (0 ≤ t.p ∧ t.p ≤ (s.ho.length : Int) - 1) 6, unb b 2] = stF s t := by subst h1; rfl
theorem stF_h {s : Si} {t : St8} {b : Bool} {P : Int → Prop} (h : P (fstE [(siE s).2, unl (0 ≤ t.p ∧ t.p ≤ (s.ho.length : Int) - 1) 6, unb b 2])) (h1 : b = decide ((isT t.t ∧ 0 ≤ t.w ∧ t.w ≤ 100000000) ∧ isN t.o)) : P (stF s t) := stF_of h1 ▸ h
theorem C219 {s : Si} {t : St8} : (SiSm s ∧ t.d.length ≤ 1000000) → PFD Tryz.prog 219 [siv s, stv t] (.tup [vi .i64 (stE s t).1, vi .i64 (stE s t).2]) := fun ⟨hs, ht⟩ => by
  have c1 := C171 hs
  have h9 := hs.tk
  have h8 := hs.ho
  have c2 := C259 (l := t.d) (b := s.tk.length) ⟨ht, by omega⟩
  obtain ⟨q, hq⟩ : ∃ q, q = stE s t := ⟨_, rfl⟩
  rw [← hq]
  rw [stE] at hq
  refine pi2 fn219 ?_
  (repeat' first | (refine Owe.same ?_; first | refine Owe.o ?_ | refine Owe.mk ?_ ?_) | (refine Fork.same ?_; (first | refine fkD ?_ ?_ | refine fkN ?_ ?_ | refine fkM ?_ ?_) <;> intro h) | ((first | refine OpsL.same ?_ | refine OpsDL.same ?_); first | refine pK c1 rfl rfl ?_ | refine pK c2 rfl rfl ?_ | refine pK C168 rfl rfl ?_ | refine pK C234 rfl rfl ?_ | refine pK C154 rfl rfl ?_ | refine pK C152 rfl rfl ?_ | refine pK C151 rfl rfl ?_) | refine MvQ.stay ?_)
  all_goals first
    | have h2 : stF s t = 0 := stF_h (P := fun x => x = 0) h (by rw [Bool.eq_iff_iff]; (try simp only [decide_eq_true_eq, Bool.false_eq_true, false_iff]); omega)
      rw [if_pos h2] at hq; subst hq
      (refine rqK rfl ?_; (repeat' first | exact rfl | (refine qS ?_; constructor)))
    | have h2 : ¬ stF s t = 0 := stF_h (P := fun x => ¬ x = 0) h (by rw [Bool.eq_iff_iff]; (try simp only [decide_eq_true_eq, Bool.false_eq_true, false_iff]); omega)
      rw [if_neg h2] at hq; subst hq
      (refine rqK rfl ?_; (repeat' first | exact rfl | (refine qS ?_; constructor)))
      exact stF_of (by rw [Bool.eq_iff_iff]; (try simp only [decide_eq_true_eq, Bool.false_eq_true, false_iff]); omega)
abbrev diD (s : Si) (t : St8) : List D := [tksD s.tk, rwsD s.tr, intsD s.ho, trsD s.ti, dI s.idle, dI s.swim, dI s.res, dI s.fin, dI t.p, dI t.t, dI t.w, dI t.o, intsD t.d]
abbrev diC (s : Si) (t : St8) : List C := [.d (tksD s.tk), .d (rwsD s.tr), ints s.ho, trs s.ti, int s.idle, int s.swim, int s.res, int s.fin, int t.p, int t.t, int t.w, int t.o, ints t.d]
abbrev div (s : Si) (t : St8) : V := .agg (diC s t)
def onE (s : Si) (t : St8) : Int := fstE [(siE s).2, (stE s t).2]
theorem C156 {s : Si} {t : St8} : (SiSm s ∧ t.d.length ≤ 1000000) → PFD Tryz.prog 156 [siv s, stv t] (.tup [div s t, vi .i64 (onE s t)]) := fun ⟨hs, ht⟩ => by
  have c1 := C171 hs
  have c2 := C219 ⟨hs, ht⟩
  refine pi2 fn156 ?_
  (repeat' first | (refine Owe.same ?_; first | refine Owe.o ?_ | refine Owe.mk ?_ ?_) | (refine Fork.same ?_; (first | refine fkD ?_ ?_ | refine fkN ?_ ?_ | refine fkM ?_ ?_) <;> intro h) | ((first | refine OpsL.same ?_ | refine OpsDL.same ?_); first | refine pK c1 rfl rfl ?_ | refine pK c2 rfl rfl ?_ | refine pK C151 rfl rfl ?_) | refine MvQ.stay ?_)
  (refine rqK rfl ?_; (repeat' first | exact rfl | (refine qS ?_; constructor)))
def swL (n a : Int) : List (Int × Int × Int) → Int
  | [] => n
  | x :: l => if x.1 ≤ a ∧ a ≤ x.2.1 then n + x.2.2 else swL n a l
theorem swL_drop (n a : Int) (l : List (Int × Int × Int)) (k : Nat) (h : k < l.length) : swL n a (l.drop k) = if (l.getD k (0, 0, 0)).1 ≤ a ∧ a ≤ (l.getD k (0, 0, 0)).2.1 then n + (l.getD k (0, 0, 0)).2.2 else swL n a (l.drop (k + 1)) := by
  rw [List.drop_eq_getElem_cons h, swL, List.getD_eq_getElem?_getD, List.getElem?_eq_getElem h]
  rfl
def swF (l : List (Int × Int × Int)) (n a : Int) : Int := if n = 0 then 0 else swL n a l
theorem C227 {s : Si} {t : St8} {n a : Int} : (s.ti.length ≤ 1000000 ∧ (∀ k, k < s.ti.length → isN (s.ti.getD k (0, 0, 0)).2.2) ∧ -1000000000 ≤ n ∧ n ≤ 1000000000) → PFD Tryz.prog 227 [div s t, vi .i64 n, vi .i64 a] (vi .i64 (swF s.ti n a)) := fun ⟨hl, hs, hn⟩ => by
  obtain ⟨q, hq⟩ : ∃ q, q = swF s.ti n a := ⟨_, rfl⟩
  rw [← hq]
  rw [swF] at hq
  refine pi1 fn227 ?_
  (repeat' first | (refine Owe.same ?_; first | refine Owe.o ?_ | refine Owe.mk ?_ ?_) | (refine Fork.same ?_; (first | refine fkD ?_ ?_ | refine fkN ?_ ?_ | refine fkM ?_ ?_) <;> intro h) | refine MvQ.stay ?_)
  · rw [if_pos h] at hq; subst hq; (refine rqK rfl ?_; (repeat' first | exact rfl | (refine qS ?_; constructor)))
  · rw [if_neg h] at hq
    refine Sat.lp0 (fun k : Nat => [(15, vi .i64 k), (14, vi .i64 s.ti.length), (13, .c (trs s.ti)), (1, vi .i64 n), (2, vi .i64 a)]) (fun k => k ≤ s.ti.length ∧ q = swL n a (s.ti.drop k)) (fun k => s.ti.length - k) 0 ⟨Nat.zero_le _, hq⟩ (by ((first | refine qen ?_ | refine qvs ?_ | refine qeq ?_ | refine qst ?_ | refine qv ?_ | refine qc ?_ | refine qe ?_ | refine qcs ?_ | skip); (repeat' first | exact rfl | (refine qS ?_; constructor)))) ?_
    intro k hk
    refine Fork.dec (fun hlt => ?_) (fun hlt => ?_)
    · have hlt : k < s.ti.length := by omega
      have h1 := hs k hlt
      have e := swL_drop n a s.ti k hlt
      rw [← hk.2] at e
      (repeat' first | (refine Owe.same ?_; first | refine Owe.o ?_ | refine Owe.mk ?_ ?_) | (refine Fork.same ?_; (first | refine fkD ?_ ?_ | refine fkN ?_ ?_ | refine fkM ?_ ?_) <;> intro h) | ((first | refine OpsL.same ?_ | refine OpsDL.same ?_); first | refine pK C168 rfl rfl ?_) | refine MvQ.stay ?_)
      · have h : (s.ti.getD k (0, 0, 0)).1 ≤ a ∧ a ≤ (s.ti.getD k (0, 0, 0)).2.1 := h
        rw [if_pos h] at e; subst e
        (refine rqK rfl ?_; (repeat' first | exact rfl | (refine qS ?_; constructor)))
      · have h : ¬ ((s.ti.getD k (0, 0, 0)).1 ≤ a ∧ a ≤ (s.ti.getD k (0, 0, 0)).2.1) := h
        rw [if_neg h] at e
        exact again0 (k + 1) ⟨hlt, e⟩ (by omega) (by ((first | refine qen ?_ | refine qvs ?_ | refine qeq ?_ | refine qst ?_ | refine qv ?_ | refine qc ?_ | refine qe ?_ | refine qcs ?_ | skip); (repeat' first | exact rfl | (refine qS ?_; constructor))))
    · have e := hk.2
      rw [List.drop_of_length_le (by omega)] at e
      (repeat' first | (refine Owe.same ?_; first | refine Owe.o ?_ | refine Owe.mk ?_ ?_) | (refine Fork.same ?_; (first | refine fkD ?_ ?_ | refine fkN ?_ ?_ | refine fkM ?_ ?_) <;> intro h) | refine MvQ.stay ?_)
      subst e
      (refine rqK rfl ?_; (repeat' first | exact rfl | (refine qS ?_; constructor)))
theorem fst2 {a b : Int} : fstE [a, b] = 0 ↔ a = 0 ∧ b = 0 := by rw [fstE_ok]; simp
theorem fst3 {a b c : Int} : fstE [a, b, c] = 0 ↔ a = 0 ∧ b = 0 ∧ c = 0 := by rw [fstE_ok]; simp
theorem fst4 {a b c d : Int} : fstE [a, b, c, d] = 0 ↔ a = 0 ∧ b = 0 ∧ c = 0 ∧ d = 0 := by rw [fstE_ok]; simp
theorem unl0 {p : Prop} [Decidable p] {e : Int} (he : e ≠ 0) : unb (decide p) e = 0 ↔ p := by rw [unb_ok he, decide_eq_true_eq]
structure TkOk (s : Si) (i : Nat) : Prop where
  n : nmP (s.tk.getD i tk0).n
  k : knB s.tk i (s.tk.getD i tk0).n = false
  p : 0 ≤ (s.tk.getD i tk0).p ∧ (s.tk.getD i tk0).p ≤ 4
  q : (s.tk.getD i tk0).p < s.ho.length
  d : isN (s.tk.getD i tk0).d
  w : isN (s.tk.getD i tk0).w
  o : isN (s.tk.getD i tk0).o
  v : isN (s.tk.getD i tk0).v
  lo : isT (s.tk.getD i tk0).lo
  hi : isT (s.tk.getD i tk0).hi
  r : (s.tk.getD i tk0).lo ≤ (s.tk.getD i tk0).hi
  a : (ascE (s.tk.getD i tk0).a i).2 = 0
structure SiOk (s : Si) : Prop where
  n : s.tk.length ≤ 6
  t : ∀ i, i < s.tk.length → TkOk s i
  h : (1 ≤ s.ho.length ∧ s.ho.length ≤ 5) ∧ s.tr.length = s.ho.length
  r : ∀ i, i < s.ho.length → (isN (s.ho.getD i 0) ∧ (s.tr.getD i []).length = s.ho.length) ∧ (∀ j, isN ((s.tr.getD i []).getD j 0)) ∧ (s.tr.getD i []).getD i 0 = 0
  m : s.ti.length ≤ 6
  u : ∀ i, i < s.ti.length → ((isT (s.ti.getD i (0, 0, 0)).1 ∧ isT (s.ti.getD i (0, 0, 0)).2.1) ∧ isN (s.ti.getD i (0, 0, 0)).2.2) ∧ (s.ti.getD i (0, 0, 0)).1 ≤ (s.ti.getD i (0, 0, 0)).2.1 ∧ lastT s i < (s.ti.getD i (0, 0, 0)).1
  e : ((isN s.idle ∧ isN s.swim) ∧ isN s.res) ∧ isT s.fin
theorem oddI_f {l : List Int} (h : oddI l = false) : ∀ j, isN (l.getD j 0) := fun j => by
  by_cases hj : j < l.length
  · have := List.any_eq_false.1 h _ (getD_mem 0 hj)
    simpa using this
  · rw [List.getD_eq_getElem?_getD, List.getElem?_eq_none (by omega)]; decide
theorem SiOk.of {s : Si} (h : (siE s).2 = 0) : SiOk s := by
  rw [siE] at h
  by_cases h1 : (tsE s.tk).2 = 0
  · rw [if_pos h1] at h
    by_cases h2 : hoE s = 0
    · rw [if_pos h2] at h
      by_cases h3 : (eachN (hmN s) 0 s.ho.length).2 = 0
      · rw [if_pos h3] at h
        by_cases h4 : (eachN (plN s) 0 s.tk.length).2 = 0
        · rw [if_pos h4] at h
          by_cases h5 : (s.ti.length : Int) > 6
          · rw [if_pos h5] at h; cases h
          · rw [if_neg h5] at h
            by_cases h6 : (eachN (tiN s) 0 s.ti.length).2 = 0
            · rw [if_pos h6] at h
              have h7 := (unl0 (show (2 : Int) ≠ 0 by decide)).1 h
              have h6 := eachN_ok.1 h6
              have h4 := eachN_ok.1 h4
              have h3 := eachN_ok.1 h3
              rw [hoE, fst3, unl0 (by decide), unl0 (by decide), unl0 (by decide)] at h2
              have h8 : s.tk.length ≤ 6 := by
                rw [tsE] at h1
                split at h1
                · cases h1
                · omega
              have h9 : ∀ i, i < s.tk.length → tkE s.tk i = 0 := by
                rw [tsE, if_neg (by omega)] at h1
                exact eachN_ok.1 h1
              refine ⟨h8, fun i hi => ?_, by omega, fun i hi => ?_, by omega, fun i hi => ?_, h7⟩
              · have a1 := h9 i hi
                have a2 := (unl0 (by decide)).1 (h4 i hi)
                rw [tkE] at a1
                split at a1
                · rename_i a3
                  rw [tkF, fst4, tksE, fst2, unl0 (by decide), unb_ok (by decide), unb_ok (by decide), unl0 (by decide), unl0 (by decide), Bool.and_eq_true, decide_eq_true_eq] at a3
                  obtain ⟨b1, b2, b3, b4, b5⟩ := a3
                  have b6 := oddI_f ((Bool.not_eq_true' _).mp b3.2)
                  exact ⟨b1, by simpa using b2, b3.1, a2, b6 0, b6 1, b6 2, b6 3, b4.1, b4.2, b5, a1⟩
                · rename_i a3; exact absurd a1 a3
              · have a1 := h3 i hi
                rw [hmN, fst3, unl0 (by decide), unl0 (by decide), unb_ok (by decide), hmB, Bool.and_eq_true, Bool.or_eq_true, decide_eq_true_eq, decide_eq_true_eq] at a1
                refine ⟨⟨a1.1, by omega⟩, oddI_f ((Bool.not_eq_true' _).mp a1.2.2.1), ?_⟩
                rcases a1.2.2.2 with a2 | a2
                · omega
                · exact a2
              · have a1 := h6 i hi
                rw [tiN, tiF, fst2, unl0 (by decide), unl0 (by decide)] at a1
                exact a1
            · rw [if_neg h6] at h; exact absurd h h6
        · rw [if_neg h4] at h; exact absurd h h4
      · rw [if_neg h3] at h; exact absurd h h3
    · rw [if_neg h2] at h; exact absurd h h2
  · rw [if_neg h1] at h; exact absurd h h1
structure DvB (s : Si) (t : St8) : Prop where
  ok : SiOk s
  pl : 0 ≤ t.p ∧ t.p < s.ho.length
  tm : -1000000 ≤ t.t ∧ t.t ≤ 1000000
  en : -1000000000000 ≤ t.w ∧ t.w ≤ 1000000000000
theorem swF_bd {l : List (Int × Int × Int)} {n a : Int} (hs : ∀ k, k < l.length → isN (l.getD k (0, 0, 0)).2.2) (hn : isN n) : n ≤ swF l n a ∧ swF l n a ≤ n + 10000 := by
  have : ∀ m k, l.length - k = m → n ≤ swL n a (l.drop k) ∧ swL n a (l.drop k) ≤ n + 10000 := fun m => by
    induction m with
    | zero => intro k hk; rw [List.drop_of_length_le (by omega), swL]; omega
    | succ m ih =>
      intro k hk
      rw [swL_drop n a l k (by omega)]
      have := hs k (by omega)
      split
      · omega
      · exact ih (k + 1) (by omega)
  rw [swF]
  split
  · omega
  · exact this _ 0 rfl
abbrev hmT (s : Si) (t : St8) : Int := swF s.ti (s.ho.getD t.p.toNat 0) t.t
theorem hmT_bd {s : Si} {t : St8} (h : DvB s t) : 0 ≤ hmT s t ∧ hmT s t ≤ 20000 := by
  have h1 := (h.ok.r t.p.toNat (by have := h.pl; omega)).1.1
  have := swF_bd (a := t.t) (fun k hk => (h.ok.u k hk).1.2) h1
  simp only [hmT]
  omega
theorem C167 {s : Si} {t : St8} : DvB s t → PFD Tryz.prog 167 [div s t] (.agg [int (hmT s t), int (hmT s t * s.swim)]) := fun h => by
  have hb := hmT_bd h
  have h1 := h.pl
  have h2 := h.ok.m
  have h3 := (h.ok.r t.p.toNat (by omega)).1.1
  have h4 := h.ok.e
  have c1 := C227 (s := s) (t := t) (n := s.ho.getD t.p.toNat 0) (a := t.t) ⟨by omega, fun k hk => (h.ok.u k hk).1.2, by omega⟩
  obtain ⟨n, hn⟩ : ∃ n, n = hmT s t := ⟨_, rfl⟩
  rw [← hn] at hb ⊢
  change PFD Tryz.prog 227 _ (vi .i64 (hmT s t)) at c1
  rw [← hn] at c1
  have hm := mbd (a := n) (A := 20000) (by omega) (b := s.swim) (B := 10000) (by omega)
  refine pi1 fn167 ?_
  (repeat' first | (refine Owe.same ?_; first | refine Owe.o ?_ | refine Owe.mk ?_ ?_) | (refine Fork.same ?_; (first | refine fkD ?_ ?_ | refine fkN ?_ ?_ | refine fkM ?_ ?_) <;> intro h) | ((first | refine OpsL.same ?_ | refine OpsDL.same ?_); first | refine pK c1 rfl rfl ?_) | refine MvQ.stay ?_)
  (refine rqK rfl ?_; (repeat' first | exact rfl | (refine qS ?_; constructor)))
def reB (s : Si) (t : St8) : Bool := decide (s.res ≤ t.w - hmT s t * s.swim ∧ t.t + hmT s t ≤ s.fin)
theorem C165 {s : Si} {t : St8} : DvB s t → PFD Tryz.prog 165 [div s t] (vbl (reB s t)) := fun h => by
  have hb := hmT_bd h
  have h1 := h.tm
  have h2 := h.en
  have h4 := h.ok.e
  have hm := mbd (a := hmT s t) (A := 20000) (by omega) (b := s.swim) (B := 10000) (by omega)
  have c1 := C167 h
  refine pi1 fn165 ?_
  (repeat' first | (refine Owe.same ?_; first | refine Owe.o ?_ | refine Owe.mk ?_ ?_) | (refine Fork.same ?_; (first | refine fkD ?_ ?_ | refine fkN ?_ ?_ | refine fkM ?_ ?_) <;> intro h) | ((first | refine OpsL.same ?_ | refine OpsDL.same ?_); first | refine pK c1 rfl rfl ?_) | refine MvQ.stay ?_)
  · (refine rqK rfl ?_; (repeat' first | exact rfl | (refine qS ?_; constructor)))
    rw [reB]; exact decide_eq_decide.2 ⟨fun hh => ⟨h, hh⟩, fun hh => hh.2⟩
  · (refine rqK rfl ?_; (repeat' first | exact rfl | (refine qS ?_; constructor)))
    have hf : reB s t = false := decide_eq_false fun hh => h hh.1
    exact hf
structure OnOk (s : Si) (t : St8) : Prop where
  ok : SiOk s
  pl : 0 ≤ t.p ∧ t.p < s.ho.length
  tm : isT t.t
  en : 0 ≤ t.w ∧ t.w ≤ 100000000
  oil : isN t.o
  d : (ascE t.d s.tk.length).2 = 0
theorem OnOk.of {s : Si} {t : St8} (h : onE s t = 0) : OnOk s t := by
  rw [onE, fst2, stE] at h
  obtain ⟨h1, h2⟩ := h
  split at h2
  · rename_i h3
    rw [stF, fst3, unl0 (by decide), unl0 (by decide)] at h3
    exact ⟨SiOk.of h1, by omega, by omega, by omega, by omega, h2⟩
  · rename_i h3; exact absurd h2 h3
theorem OnOk.b {s : Si} {t : St8} (h : OnOk s t) : DvB s t := ⟨h.ok, h.pl, by have := h.tm; omega, by have := h.en; omega⟩
abbrev wtS (s : Si) (t : St8) (u : Int) : St8 := ⟨t.p, u, t.w - (u - t.t) * s.idle, t.o, t.d⟩
theorem wtS_b {s : Si} {t : St8} {u : Int} (h : OnOk s t) (hu : -1000000 ≤ u ∧ u ≤ 1000000) : DvB s (wtS s t u) := by
  have h1 := h.tm
  have h2 := h.en
  have h3 := h.ok.e
  have hm := mbd (a := u - t.t) (A := 2000000) (by omega) (b := s.idle) (B := 10000) (by omega)
  exact ⟨h.ok, h.pl, hu, by simp only [wtS]; omega⟩
theorem C166 {s : Si} {t : St8} {u : Int} : (OnOk s t ∧ -1000000 ≤ u ∧ u ≤ 1000000) → PFD Tryz.prog 166 [div s t, vi .i64 u] (div s (wtS s t u)) := fun ⟨h, hu⟩ => by
  have h1 := h.tm
  have h2 := h.en
  have h3 := h.ok.e
  have hm := mbd (a := u - t.t) (A := 2000000) (by omega) (b := s.idle) (B := 10000) (by omega)
  refine pi1 fn166 ?_
  (repeat' first | (refine Owe.same ?_; first | refine Owe.o ?_ | refine Owe.mk ?_ ?_) | (refine Fork.same ?_; (first | refine fkD ?_ ?_ | refine fkN ?_ ?_ | refine fkM ?_ ?_) <;> intro h) | refine MvQ.stay ?_)
  (refine rqK rfl ?_; (repeat' first | exact rfl | (refine qS ?_; constructor)))
def lrD (s : Si) (t : St8) : Nat → Int × Int
  | 0 => (0, 12)
  | n + 1 => if reB s (wtS s t (t.t + n)) = true then (t.t + n, 0) else lrD s t n
def lrE (s : Si) (t : St8) : Int × Int := if onE s t = 0 then lrD s t (s.fin - t.t + 1).toNat else (0, onE s t)
theorem C76 {s : Si} {t : St8} : (SiSm s ∧ t.d.length ≤ 1000000) → PFD Tryz.prog 76 [siv s, stv t] (.tup [vi .i64 (lrE s t).1, vi .i64 (lrE s t).2]) := fun hs => by
  have c1 := C156 hs
  obtain ⟨q, hq⟩ : ∃ q, q = lrE s t := ⟨_, rfl⟩
  rw [← hq]
  rw [lrE] at hq
  refine pi2 fn76 ?_
  (repeat' first | (refine Owe.same ?_; first | refine Owe.o ?_ | refine Owe.mk ?_ ?_) | (refine Fork.same ?_; (first | refine fkD ?_ ?_ | refine fkN ?_ ?_ | refine fkM ?_ ?_) <;> intro h) | ((first | refine OpsL.same ?_ | refine OpsDL.same ?_); first | refine pK c1 rfl rfl ?_) | refine MvQ.stay ?_)
  · rw [if_neg h] at hq; subst hq; (refine rqK rfl ?_; (repeat' first | exact rfl | (refine qS ?_; constructor)))
  · rw [if_pos h] at hq
    have hO := OnOk.of h
    have h1 := hO.tm
    have h2 := hO.ok.e
    refine Sat.lp (fun u : Int => ⟨[(8, vi .i64 u), (6, .c (.bp 0 0))], [(0, .box (diC s t))], 1⟩) (fun u => (u ≤ s.fin ∧ -1 ≤ u) ∧ q = lrD s t (u - t.t + 1).toNat) (fun u => (u - t.t + 1).toNat) s.fin [0] ⟨by omega, hq⟩ ?_ ?_
    · (refine qis ?_ ?_ <;> (repeat' first | exact rfl | (refine qS ?_; constructor)))
    · intro u hu
      refine Fork.dec (fun hlt => ?_) (fun hlt => ?_)
      · have hlt : t.t ≤ u := hlt
        have c2 := C166 (u := u) ⟨hO, by omega⟩
        have c3 := C165 (wtS_b (u := u) hO (by omega))
        obtain ⟨n, hn⟩ : ∃ n : Nat, u = t.t + n := ⟨(u - t.t).toNat, by omega⟩
        have e := hu.2
        rw [show (u - t.t + 1).toNat = n + 1 by omega, lrD, ← hn] at e
        (repeat' first | (refine Owe.same ?_; first | refine Owe.o ?_ | refine Owe.mk ?_ ?_) | (refine Fork.same ?_; (first | refine fkD ?_ ?_ | refine fkN ?_ ?_ | refine fkM ?_ ?_) <;> intro h) | ((first | refine OpsL.same ?_ | refine OpsDL.same ?_); first | refine pK c2 rfl rfl ?_ | refine pK c3 rfl rfl ?_) | refine MvQ.stay ?_)
        · have h : reB s (wtS s t u) = true := decide_eq_true h
          rw [if_pos h] at e; subst e
          (refine rqK rfl ?_; (repeat' first | exact rfl | (refine qS ?_; constructor)))
        · have h : ¬ reB s (wtS s t u) = true := fun hh => h (of_decide_eq_true hh)
          rw [if_neg h] at e
          refine again (u - 1) [0] ⟨by omega, ?_⟩ (by omega) ?_
          · rw [show (u - 1 - t.t + 1).toNat = n by omega]; exact e
          · (refine qis ?_ ?_ <;> (repeat' first | exact rfl | (refine qS ?_; constructor)))
      · have e := hu.2
        have hlt : ¬ t.t ≤ u := hlt
        rw [show (u - t.t + 1).toNat = 0 by omega, lrD] at e
        subst e
        (repeat' first | (refine Owe.same ?_; first | refine Owe.o ?_ | refine Owe.mk ?_ ?_) | (refine Fork.same ?_; (first | refine fkD ?_ ?_ | refine fkN ?_ ?_ | refine fkM ?_ ?_) <;> intro h) | refine MvQ.stay ?_)
        (refine rqK rfl ?_; (repeat' first | exact rfl | (refine qS ?_; constructor)))
end Go.Pw
set_option linter.unusedSimpArgs false
set_option linter.unusedVariables false
set_option maxHeartbeats 2000000
namespace Go.Pw
open Go Go.RowKit Go.Proofs
def insL_ren : Go.Shelf.Ren := ⟨fun | 21 => 267 | 27 => 293 | 28 => 294 | 35 => 305 | 39 => 313 | n => n, fun | 22 => 49 | 3 => 3 | 4 => 4 | 0 => 0 | n => n, fun | n => n⟩
theorem insL : Lays2.n21 Tryz.prog insL_ren := {
  mixed := by kernel_rfl
  f21 := Tryz.func267.trans (congrArg some (by kernel_rfl))
  f27 := Tryz.func293.trans (congrArg some (by kernel_rfl))
  f28 := Tryz.func294.trans (congrArg some (by kernel_rfl))
  f35 := Tryz.func305.trans (congrArg some (by kernel_rfl))
  f39 := Tryz.func313.trans (congrArg some (by kernel_rfl))
  t0 := Tryz.underlying0
  a0 := Tryz.isAgg0
  z0 := Tryz.sizeOf0
  v0 := Tryz.zeroValue0
  t3 := Tryz.underlying3
  a3 := Tryz.isAgg3
  z3 := Tryz.sizeOf3
  v3 := Tryz.zeroValue3
  t4 := Tryz.underlying4
  a4 := Tryz.isAgg4
  z4 := Tryz.sizeOf4
  v4 := Tryz.zeroValue4
  t22 := Tryz.underlying49
  a22 := Tryz.isAgg49
  z22 := Tryz.sizeOf49
  v22 := Tryz.zeroValue49
  i3 := by kernel_rfl }
theorem tape_setCells (b : Nat) : ∀ (vs : List Value) (o : Nat) (w : World), (w.setCells b o vs).tape = w.tape
  | [], _, _ => rfl
  | v :: r, o, w => by rw [World.setCells, tape_setCells b r]; rfl
theorem os_setCells (b : Nat) : ∀ (vs : List Value) (o : Nat) (w : World), (w.setCells b o vs).os = w.os
  | [], _, _ => rfl
  | v :: r, o, w => by rw [World.setCells, os_setCells b r]; rfl
theorem output_setCells (b : Nat) : ∀ (vs : List Value) (o : Nat) (w : World), (w.setCells b o vs).output = w.output
  | [], _, _ => rfl
  | v :: r, o, w => by rw [World.setCells, output_setCells b r]; rfl
theorem size_setCells (b : Nat) : ∀ (vs : List Value) (o : Nat) (w : World), (w.setCells b o vs).heap.size = w.heap.size
  | [], _, _ => rfl
  | v :: r, o, w => by rw [World.setCells, size_setCells b r]; simp [World.setCell]
theorem heapo_setCells (b : Nat) {k : Nat} (hk : k ≠ b) : ∀ (vs : List Value) (o : Nat) (w : World), (w.setCells b o vs).heap[k]? = w.heap[k]?
  | [], _, _ => rfl
  | v :: r, o, w => by
    rw [World.setCells, heapo_setCells b hk r]; simp [World.setCell, Array.getElem?_modify, Ne.symm hk]
theorem alloc_size (w : World) (o : Obj) : (w.alloc o).heap.size = w.heap.size + 1 := by
  show (w.heap.push o).size = _
  simp
theorem get_here {i : Nat} {e : Ent} {σ : Store} : get ((i, e) :: σ) i = some e := by
  have : Nat.beq i i = true := Nat.beq_refl i
  simp only [get, this]
theorem get_next {i j : Nat} {e : Ent} {σ : Store} (h : i ≠ j) : get ((i, e) :: σ) j = get σ j := by
  have : Nat.beq i j = false := by rw [Bool.eq_false_iff]; exact fun h' => h (Nat.eq_of_beq_eq_true h')
  simp only [get, this]
theorem shut_post {Γ : Cx} {w w' : World} {σ : Store} {B cap nx : Nat} {ys : List Int} (hst : StoreOk Γ w σ) (hB : Live Γ σ B ∨ w.heap.size ≤ B) (hB' : B < w'.heap.size) (hle : ys.length ≤ cap)
    (hc : ∀ j, j < ys.length → w'.cell? ⟨B, j, none⟩ = some (.int .i64 (ys.getD j 0))) (hos : w'.os = w.os) (ht : w'.tape = w.tape) (ho : w'.output = w.output) (hsz : w.heap.size ≤ w'.heap.size)
    (hk : ∀ k, k < w.heap.size → k ≠ B → w'.heap[k]? = w.heap[k]?) :
    ∃ u Γ', Ending.returned (.slice (some ⟨B, 0, none⟩) ys.length cap) = Ending.returned u ∧ RepV Γ' w' (.c (ints ys)) u ∧ StoreOk Γ' w' [] ∧ CxLe Γ Γ' ∧ (∀ id, ¬ (nx ≤ id ∧ id < nx) → Γ'.ρ id = Γ.ρ id ∧ Γ'.κ id = Γ.κ id) ∧ Ext 0 Γ w σ Γ' w' [] := by
  have nol : ∀ {Γ' : Cx} {i : Nat}, ¬ LiveId Γ' [] i := fun h => by
    rcases h with ⟨_, h⟩ | ⟨_, _, _, _, h, _⟩ | ⟨_, _, _, _, h⟩ | ⟨_, _, h⟩ <;> cases h
  refine ⟨_, ⟨fun k => Γ.I k ∨ k = B, Γ.ρ, Γ.κ⟩, rfl, .c _ _ (.sl 1 _ _ ⟨B, 0, none⟩ cap (fun i _ => .int .i64 (ys.getD i 0)) hle (.inr rfl) (fun i _ => rfl) (fun i j d hi hd => ?_) (fun i j d hi hd => ?_)), ⟨fun k h => ?_, fun id e h => (by cases h), fun i j k h => absurd h nol, hst.lay.mono (fun _ h => .inl h) (fun k hI => hk k (hst.im k hI) (fun e => by
    subst e
    rcases hB with h | h
    · exact hst.not_live hI h
    · have := hst.im _ hI; omega))⟩, ⟨fun k h => .inl h, fun _ _ h => h, fun _ _ _ => rfl⟩, fun _ _ => ⟨rfl, rfl⟩, ⟨hos, ht, ho, hsz, fun k h => .inl h, fun k h => ?_, fun _ _ => rfl, fun _ _ => rfl, fun k h1 h2 => hk k h1 fun e => ?_, fun k ⟨i, h, _⟩ => absurd h nol⟩⟩
  · have hj : j = 0 := by
      have := (List.getElem?_eq_some_iff.1 hd).1
      simp at this; exact this
    subst hj
    rw [Addr.add_lit, Nat.zero_add, Nat.mul_one, Nat.add_zero]; exact hc i hi
  · have hj : j = 0 := by
      have := (List.getElem?_eq_some_iff.1 hd).1
      simp at this; exact this
    subst hj
    simp only [r1, List.getElem?_cons_zero, Option.some.injEq] at hd
    subst hd
    exact .v _ rfl
  · rcases h with h | rfl
    · exact Nat.lt_of_lt_of_le (hst.im k h) hsz
    · exact hB'
  · rcases h with h | rfl
    · exact .inl h
    · exact .inr hB.symm
  · subst e
    rcases hB with h | h
    · exact h2 h
    · omega
theorem one_row {x : Int} {g : Nat → List D} (hg : g 0 = r1 x) : ∀ i, i < [x].length → g i = r1 ([x].getD i 0) := fun i hi => by
  have hi : i < 1 := hi
  obtain rfl : i = 0 := by omega
  exact hg
theorem row_lies {Γ : Cx} {w : World} {σ : Store} {a : Nat} {l : List Int} {f : Nat → List D} {u : Value} (hf : ∀ i, i < l.length → f i = r1 (l.getD i 0)) (hst : StoreOk Γ w σ) (hg : get σ a = some (.row 3 1 l.length f false)) (h0 : 0 < l.length) (hu : RepV Γ w (.c (.ms a l.length)) u) :
    ∃ b c xs, Γ.ρ a = some b ∧ u = .slice (some ⟨b, 0, none⟩) l.length c ∧ LiveId Γ σ a ∧ l.length ≤ c ∧ c ≤ maxLen ∧ w.heap[b]? = some (.cells xs 3 (0, 0)) ∧ xs.size = c ∧ ∀ j, j < l.length → xs[j]? = some (.int .i64 (l.getD j 0)) := by
  cases hu with | c _ u hu =>
  obtain ⟨b, hb, ⟨h1, _⟩ | ⟨c, hc, rfl⟩⟩ := hu
  · omega
  · obtain ⟨b', hb', hok⟩ := hst.ok a _ hg
    rw [hb] at hb'; cases hb'
    rcases hok with ⟨h1, _⟩ | ⟨c', hk, _, hI, hn, hm, _, xs, hh, hx, hcell⟩
    · rw [hc] at h1; cases h1
    · rw [hc] at hk; cases hk
      refine ⟨b, c, xs, hb, rfl, .inr (.inl ⟨_, _, _, _, hg, c, hc⟩), hn, hm, hh, by simpa using hx, fun j hj => ?_⟩
      obtain ⟨x, h3, h4⟩ := hcell j 0 (dI (l.getD j 0)) hj (by rw [hf j hj]; rfl)
      rw [Nat.mul_one, Nat.add_zero] at h3
      rw [h3]
      cases h4; rfl
theorem cell_row {w : World} {b : Nat} {xs : Array Value} {t : TypeId} {fr : Nat × Nat} (h : w.heap[b]? = some (.cells xs t fr)) (j : Nat) : w.cell? ⟨b, j, none⟩ = xs[j]? := by
  have := cell_at (off := 0) h j
  rwa [Addr.add_lit, Nat.zero_add] at this
theorem frozen_row {w : World} {b : Nat} {xs : Array Value} {t : TypeId} (h : w.heap[b]? = some (.cells xs t (0, 0))) (j : Nat) : w.frozen? ⟨b, j, none⟩ = false := by
  simp [World.frozen?, h]
theorem shape_row {w : World} {b : Nat} {xs : Array Value} {t : TypeId} (h : w.heap[b]? = some (.cells xs t (0, 0))) : w.shape? b = some (t, xs.size) := by
  simp [World.shape?, h]
abbrev insI (l : List Int) (i : Nat) (x : Int) : List Int := l.take i ++ x :: l.drop i
theorem insI_len {l : List Int} {i : Nat} {x : Int} (hi : i ≤ l.length) : (insI l i x).length = l.length + 1 := by simp [insI]; omega
theorem insI_get {l : List Int} {i : Nat} {x : Int} (hi : i ≤ l.length) (j : Nat) : (insI l i x).getD j 0 = if j < i then l.getD j 0 else if j = i then x else l.getD (j - 1) 0 := by
  simp only [insI, List.getD_eq_getElem?_getD]
  rcases Nat.lt_trichotomy j i with h | h | h
  · rw [if_pos h, List.getElem?_append_left (by simp; omega), List.getElem?_take, if_pos h]
  · subst h
    rw [if_neg (Nat.lt_irrefl _), if_pos rfl, List.getElem?_append_right (by simp; omega), List.length_take, Nat.min_eq_left hi, Nat.sub_self]; rfl
  · rw [if_neg (by omega), if_neg (by omega), List.getElem?_append_right (by simp; omega), List.length_take, Nat.min_eq_left hi, show j - i = (j - i - 1) + 1 by omega, List.getElem?_cons_succ, List.getElem?_drop]
    congr 2; omega
abbrev vsI (l : List Int) : List Value := l.map (.int .i64)
theorem vsI_get {l : List Int} {j : Nat} {v : Value} (h : (vsI l)[j]? = some v) : j < l.length ∧ v = .int .i64 (l.getD j 0) := by
  rw [List.getElem?_map] at h
  have hj : j < l.length := by
    rcases Nat.lt_or_ge j l.length with h1 | h1
    · exact h1
    · rw [List.getElem?_eq_none h1] at h; cases h
  refine ⟨hj, ?_⟩
  rw [List.getElem?_eq_getElem hj] at h
  rw [List.getD_eq_getElem?_getD, List.getElem?_eq_getElem hj]
  simpa using h.symm
theorem sc_get {b o : Nat} {vs : List Value} {w : World} (hs : ∀ j, j < vs.length → (w.cell? ⟨b, o + j, none⟩).isSome = true) (k : Nat) : (w.setCells b o vs).cell? ⟨b, k, none⟩ = if o ≤ k ∧ k < o + vs.length then vs[k - o]? else w.cell? ⟨b, k, none⟩ := by
  split
  · rename_i h
    have := World.cell?_setCells_in b vs o w hs (k - o) (by omega)
    rw [show o + (k - o) = k by omega] at this
    rw [this, List.getElem?_eq_getElem]
  · rename_i h
    exact World.cell?_setCells_out b vs o w _ fun _ _ => by show k < o ∨ o + vs.length ≤ k; omega
theorem vsI_at {l : List Int} {j : Nat} (hj : j < l.length) : (vsI l)[j]? = some (.int .i64 (l.getD j 0)) := by
  rw [List.getElem?_map, List.getElem?_eq_getElem hj, List.getD_eq_getElem?_getD, List.getElem?_eq_getElem hj]; rfl
theorem vsI_one {l : List Int} : ∀ v ∈ vsI l, v.oneCell' = true := fun v hv => by
  obtain ⟨n, _, rfl⟩ := List.mem_map.1 hv; rfl
theorem C267 {l : List Int} {i : Nat} {x : Int} {a b nx : Nat} {f g : Nat → List D} (hf : ∀ i, i < l.length → f i = r1 (l.getD i 0)) (hg : g 0 = r1 x) (hab : a ≠ b) (hi : i ≤ l.length) (h0 : 0 < l.length) (hl : l.length ≤ 1000000) :
    CallD Tryz.prog 267 [.c (.ms a l.length), vi .i64 i, .c (.ms b 1)] [(a, .row 3 1 l.length f false), (b, .row 3 1 1 g false)] nx (.c (ints (insI l i x))) [] nx := by
  obtain ⟨hent, _⟩ := fn267
  refine ⟨hent, Nat.le_refl _, fun Γ w us hst _ hr => ?_⟩
  obtain ⟨us⟩ := us
  obtain ⟨u0, u1, u2, rfl⟩ : ∃ u0 u1 u2, us = [u0, u1, u2] := by
    have := hr.1
    match us, this with
    | [u0, u1, u2], _ => exact ⟨_, _, _, rfl⟩
  have q0 := hr.2 0 _ u0 rfl rfl
  have q1 := (hr.2 1 _ u1 rfl rfl).int
  have q2 := hr.2 2 _ u2 rfl rfl
  subst q1
  obtain ⟨ba, c, xs, hρa, rfl, hla, hn, hcm, hh, hx, hcell⟩ := row_lies hf hst get_here h0 q0
  obtain ⟨bb, c2, xs2, hρb, rfl, hlb, hn2, hcm2, hh2, hx2, hcell2⟩ := row_lies (l := [x]) (one_row hg) hst (by rw [get_next hab]; exact get_here) (by simp) q2
  have hne : bb ≠ ba := fun e => hab (hst.inj a b ba hla hlb hρa (e ▸ hρb))
  have hlive : Live Γ [(a, .row 3 1 l.length f false), (b, .row 3 1 1 g false)] ba := ⟨a, hla, hρa⟩
  have hlt : ba < w.heap.size := (Array.getElem?_eq_some_iff.1 hh).1
  have hcs : ∀ j v, (vsI l)[j]? = some v → w.cell? ⟨ba, 0 + j, none⟩ = some v := fun j v hj => by
    obtain ⟨h1, rfl⟩ := vsI_get hj
    rw [Nat.zero_add, cell_row hh, hcell j h1]
  have hvs : ∀ j v, (vsI [x])[j]? = some v → w.cell? ⟨bb, 0 + j, none⟩ = some v := fun j v hj => by
    obtain ⟨h1, rfl⟩ := vsI_get hj
    rw [Nat.zero_add, cell_row hh2, hcell2 j h1]
  have hsome : ∀ j, j < c → (w.cell? ⟨ba, j, none⟩).isSome = true := fun j hj => by
    rw [cell_row hh, Array.getElem?_eq_getElem (by omega)]; rfl
  have hcl : (vsI l).length = l.length := by simp
  have hdl : ((vsI l).drop i).length = l.length - i := by rw [List.length_drop, hcl]
  have hcm' : c ≤ 9223372036854775807 := by unfold maxLen at hcm; omega
  have hil := insI_len (x := x) hi
  have hfin : ∀ {j : Nat} {z : Option Value}, (j < i → z = some (.int .i64 (l.getD j 0))) → ∀ (k : Nat), k < l.length + 1 → k = j → (if 0 + i ≤ j ∧ j < 0 + i + (vsI [x]).length then (vsI [x])[j - (0 + i)]? else if 0 + (i + 1) ≤ j ∧ j < 0 + (i + 1) + ((vsI l).drop i).length then ((vsI l).drop i)[j - (0 + (i + 1))]? else z) = some (.int .i64 (if j < i then l.getD j 0 else if j = i then x else l.getD (j - 1) 0)) := fun {j z} hz k hk e => by
    subst e
    rcases Nat.lt_trichotomy k i with h | h | h
    · rw [if_neg (by omega), if_neg (by omega), if_pos h, hz h]
    · rw [if_pos ⟨by omega, by show k < 0 + i + 1; omega⟩, if_neg (by omega), if_pos h, show k - (0 + i) = 0 by omega]; rfl
    · rw [if_neg (by rintro ⟨_, h2⟩; have h2 : k < 0 + i + 1 := h2; omega), if_pos ⟨by omega, by rw [hdl]; omega⟩, if_neg (by omega), if_neg (by omega), List.getElem?_drop, vsI_at (by omega), show i + (k - (0 + (i + 1))) = k - 1 by omega]
  rcases Nat.lt_or_ge i l.length with hin | hin
  · rcases Nat.lt_or_ge c (l.length + 1) with hroom | hroom
    · have h := Any2.slices_Insert_int_grow insL ba 0 l.length c i bb 0 1 c2 (vsI l) (vsI [x]) w hin (by decide) hn hroom (by omega) hcl rfl hcs hvs vsI_one vsI_one
      refine h.mono fun e w' ⟨he, hw⟩ => ?_
      obtain ⟨A, hA⟩ : ∃ A, A = (((vsI l).take i).toArray ++ Builtin.zeroCells (Value.int .i64 0).cells (l.length + 1 - i) ++ Builtin.zeroCells (Value.int .i64 0).cells (grownCap w (l.length + 1) c (insL_ren.t 3) - (l.length + 1))) := ⟨_, rfl⟩
      rw [← hA] at hw
      have hz1 : (Value.int .i64 0).cells.size = 1 := rfl
      have hAs : l.length + 1 ≤ A.size := by
        rw [hA, Array.size_append, Array.size_append, zeroCells_size, zeroCells_size, hz1, List.size_toArray, List.length_take, hcl]; omega
      have hAt : ∀ j, j < i → A[j]? = some (.int .i64 (l.getD j 0)) := fun j hj => by
        rw [hA, Array.append_assoc, Array.getElem?_append_left (by rw [List.size_toArray, List.length_take, hcl]; omega), List.getElem?_toArray, List.getElem?_take, if_pos hj, vsI_at (by omega)]
      obtain ⟨W, hW⟩ : ∃ W, W = (w.alloc (.cells A (insL_ren.t 3))).drew := ⟨_, rfl⟩
      rw [← hW] at hw
      have hWc : ∀ j, W.cell? ⟨w.heap.size, j, none⟩ = A[j]? := fun j => by rw [hW]; exact World.cell?_alloc_new w A (insL_ren.t 3) j
      have hWs : ∀ j, j < l.length + 1 → (W.cell? ⟨w.heap.size, j, none⟩).isSome = true := fun j hj => by rw [hWc, Array.getElem?_eq_getElem (by omega)]; rfl
      have hWz : W.heap.size = w.heap.size + 1 := by rw [hW]; exact alloc_size w _
      have hs1 : ∀ j, j < (vsI [x]).length → (W.cell? ⟨w.heap.size, i + j, none⟩).isSome = true := fun j hj => hWs _ (by have : j < 1 := hj; omega)
      have hs2 : ∀ j, j < ((vsI l).drop i).length → ((W.setCells w.heap.size i (vsI [x])).drew.cell? ⟨w.heap.size, i + 1 + j, none⟩).isSome = true := fun j hj => isSome_setCells w.heap.size _ _ _ hs1 _ (hWs _ (by omega))
      have := shut_post (w' := w') (nx := nx) (ys := insI l i x) (B := w.heap.size) (cap := grownCap w (l.length + 1) c (insL_ren.t 3)) hst (.inr (Nat.le_refl _)) (by rw [hw, size_setCells]; show _ < (W.setCells _ _ _).heap.size; rw [size_setCells, hWz]; omega) (by rw [hil]; exact grownCap_ge w _ _ _) (fun j hj => ?_) (by rw [hw, os_setCells]; show (W.setCells _ _ _).os = _; rw [os_setCells, hW]; rfl) (by rw [hw, tape_setCells]; show (W.setCells _ _ _).tape = _; rw [tape_setCells, hW]; rfl) (by rw [hw, output_setCells]; show (W.setCells _ _ _).output = _; rw [output_setCells, hW]; rfl) (by rw [hw, size_setCells]; show _ ≤ (W.setCells _ _ _).heap.size; rw [size_setCells, hWz]; omega) (fun k hk hkb => by rw [hw, heapo_setCells _ hkb]; show (W.setCells _ _ _).heap[k]? = _; rw [heapo_setCells _ hkb, hW]; exact heap_alloc (w := w) hk)
      · rw [hil] at this
        rw [he]; exact this
      · rw [hw, sc_get hs2, insI_get hi]
        rcases Nat.lt_trichotomy j i with h | h | h
        · rw [if_neg (by omega), if_pos h]
          show (W.setCells w.heap.size i (vsI [x])).cell? _ = _
          rw [sc_get hs1, if_neg (by omega), hWc, hAt j h]
        · rw [if_neg (by omega), if_neg (by omega), if_pos h]
          show (W.setCells w.heap.size i (vsI [x])).cell? _ = _
          rw [sc_get hs1, if_pos ⟨by omega, by show j < i + 1; omega⟩, show j - i = 0 by omega]; rfl
        · rw [if_pos ⟨by omega, by rw [hdl]; omega⟩, if_neg (by omega), if_neg (by omega), List.getElem?_drop, vsI_at (by omega), show i + (j - (i + 1)) = j - 1 by omega]
    · have h := Any2.slices_Insert_int_shift insL ba 0 l.length c i bb 0 1 c2 (vsI l) (vsI [x]) w hin (by decide) hroom hcm' hne hcl rfl hcs (fun j hj => by rw [Nat.zero_add]; exact hsome j (by omega)) (fun j _ => frozen_row hh _) hvs vsI_one vsI_one 3 3 xs2.size xs.size (shape_row hh2) (shape_row hh) (by omega) (frozen_row hh2 _) (frozen_row hh2 _)
      refine h.mono fun e w' ⟨he, hw⟩ => ?_
      have hs1 : ∀ j, j < ((vsI l).drop i).length → (w.drew.cell? ⟨ba, 0 + (i + 1) + j, none⟩).isSome = true := fun j hj => hsome _ (by omega)
      have hs2 : ∀ j, j < (vsI [x]).length → ((w.drew.setCells ba (0 + (i + 1)) ((vsI l).drop i)).cell? ⟨ba, 0 + i + j, none⟩).isSome = true := fun j hj => by
        refine isSome_setCells ba _ _ _ hs1 _ (hsome _ ?_)
        have : j < 1 := hj
        omega
      have := shut_post (w' := w') (nx := nx) (ys := insI l i x) (B := ba) (cap := c) hst (.inl hlive) (by rw [hw, size_setCells, size_setCells]; exact hlt) (by omega) (fun j hj => ?_) (by rw [hw, os_setCells, os_setCells]; rfl) (by rw [hw, tape_setCells, tape_setCells]; rfl) (by rw [hw, output_setCells, output_setCells]; rfl) (by rw [hw, size_setCells, size_setCells]; exact Nat.le_refl _) (fun k hk hkb => by rw [hw, heapo_setCells ba hkb, heapo_setCells ba hkb]; rfl)
      · rw [hil] at this
        rw [he]; exact this
      · rw [hw, sc_get hs2, sc_get hs1, insI_get hi]
        exact hfin (fun h => by show w.cell? _ = _; rw [cell_row hh, hcell j (by omega)]) j (by omega) rfl
  · obtain rfl : i = l.length := by omega
    rcases Nat.lt_or_ge c (l.length + 1) with hroom | hroom
    · have h := Any2.slices_Insert_int_end_grow insL (some ⟨ba, 0, none⟩) l.length c bb 0 1 c2 (vsI l) (vsI [x]) w (by decide) hn hroom (by omega) hcl rfl (fun h => by cases h) (fun a h j v hj => by cases h; rw [Addr.add_lit]; exact hcs j v hj) hvs vsI_one
      refine h.mono fun e w' ⟨he, hw⟩ => ?_
      have := shut_post (w' := w') (nx := nx) (ys := insI l l.length x) (B := w.heap.size) (cap := grownCap w (l.length + 1) c (insL_ren.t 3)) hst (.inr (Nat.le_refl _)) (by rw [hw, alloc_size]; exact Nat.lt_succ_self _) (by rw [hil]; exact grownCap_ge w _ _ _) (fun j hj => ?_) (by rw [hw]; rfl) (by rw [hw]; rfl) (by rw [hw]; rfl) (by rw [hw, alloc_size]; exact Nat.le_succ _) (fun k hk hkb => by rw [hw]; exact heap_alloc (w := w.drew) hk)
      · rw [hil] at this
        rw [he]; exact this
      · rw [hw, insI_get hi]
        refine (World.cell?_alloc_new w.drew _ _ j).trans ?_
        rw [Array.getElem?_append_left (by rw [List.size_toArray, List.length_append, hcl]; show j < l.length + 1; omega), List.getElem?_toArray]
        rcases Nat.lt_or_ge j l.length with h3 | h3
        · rw [List.getElem?_append_left (by rw [hcl]; exact h3), if_pos h3, vsI_at h3]
        · rw [List.getElem?_append_right (by rw [hcl]; exact h3), if_neg (by omega), if_pos (by omega), hcl, show j - l.length = 0 by omega]; rfl
    · have h := Any2.slices_Insert_int_end_room insL ba 0 l.length c bb 0 1 c2 (vsI [x]) w (by decide) hroom hcm' rfl (fun j hj => by rw [Nat.zero_add]; exact hsome _ (by omega)) (fun j _ => frozen_row hh _) hvs vsI_one
      refine h.mono fun e w' ⟨he, hw⟩ => ?_
      have hs1 : ∀ j, j < (vsI [x]).length → (w.cell? ⟨ba, 0 + l.length + j, none⟩).isSome = true := fun j hj => hsome _ (by have : j < 1 := hj; omega)
      have := shut_post (w' := w') (nx := nx) (ys := insI l l.length x) (B := ba) (cap := c) hst (.inl hlive) (by rw [hw, size_setCells]; exact hlt) (by omega) (fun j hj => ?_) (by rw [hw, os_setCells]) (by rw [hw, tape_setCells]) (by rw [hw, output_setCells]) (by rw [hw, size_setCells]; exact Nat.le_refl _) (fun k hk hkb => by rw [hw, heapo_setCells ba hkb])
      · rw [hil] at this
        rw [he]; exact this
      · rw [hw, sc_get hs1, insI_get hi]
        split
        · rename_i h1
          have h2 : j < 0 + l.length + 1 := h1.2
          rw [if_neg (by omega), if_pos (by omega), show j - (0 + l.length) = 0 by omega]; rfl
        · rename_i h1
          have h2 : j < l.length := by
            rcases Nat.lt_or_ge j l.length with h3 | h3
            · exact h3
            · exact absurd ⟨by omega, by show j < 0 + l.length + 1; omega⟩ h1
          rw [if_pos h2, cell_row hh, hcell j h2]
def kloL_ren : Go.Shelf.Ren := ⟨fun | 15 => 164 | n => n, fun | 22 => 49 | 3 => 3 | 4 => 4 | n => n, fun | n => n⟩
theorem kloL : Lays2.n15 Tryz.prog kloL_ren := {
  mixed := by kernel_rfl
  f15 := Tryz.func164.trans (congrArg some (by kernel_rfl))
  t3 := Tryz.underlying3
  a3 := Tryz.isAgg3
  z3 := Tryz.sizeOf3
  v3 := Tryz.zeroValue3
  t4 := Tryz.underlying4
  a4 := Tryz.isAgg4
  z4 := Tryz.sizeOf4
  v4 := Tryz.zeroValue4
  t22 := Tryz.underlying49
  a22 := Tryz.isAgg49
  z22 := Tryz.sizeOf49
  v22 := Tryz.zeroValue49
  i3 := by kernel_rfl }
theorem own_post {Γ : Cx} {w w' : World} {nx : Nat} {v : Value} {l : List Int} (hst : StoreOk Γ w []) (hid : Γ.ρ nx = none) (hown : w'.ownsRow w.heap.size 3 1 v l.length (vsI l)) (hnil : v ≠ .slice none 0 0) (hB : Below w.heap.size w w') :
    ∃ Γ', RepV Γ' w' (.c (.ms nx l.length)) v ∧ StoreOk Γ' w' [(nx, rowv 3 1 r1 0 l)] ∧ CxLe Γ Γ' ∧ (∀ id, ¬ (nx ≤ id ∧ id < nx + 1) → Γ'.ρ id = Γ.ρ id ∧ Γ'.κ id = Γ.κ id) ∧ Ext 0 Γ w [] Γ' w' [(nx, rowv 3 1 r1 0 l)] := by
  obtain ⟨_, ⟨h, _⟩ | ⟨g, cap, cur, rfl, hg, hh, hn, hc, hs, ht⟩⟩ := hown
  · exact absurd h hnil
  · have hnI : ¬ Γ.I g := fun hI => by have := hst.im _ hI; omega
    have hnL : ¬ Live Γ [] g := fun hl => by have := hst.live_lt hl; omega
    have he : EntOk (Γ.upd nx g (some cap)) w' nx g (rowv 3 1 r1 0 l) :=
      .inr ⟨cap, upd_κ_same, (fun hf => by cases hf), fun _ => hnI, hn, hc, fun _ _ => rfl, cur, hh, hs, fun i j d hi hd => by
        have hj : j = 0 := by
          have := (List.getElem?_eq_some_iff.1 hd).1
          simp at this; exact this
        subst hj
        simp only [r1, List.getElem?_cons_zero, Option.some.injEq] at hd
        subst hd
        refine ⟨.int .i64 (l.getD i 0), ?_, .v _ rfl⟩
        have h1 := vsI_at hi
        rw [← ht, List.getElem?_take, Nat.mul_one, if_pos hi] at h1
        rw [Nat.mul_one, Nat.add_zero]
        simpa using h1⟩
    refine ⟨Γ.upd nx g (some cap), .c _ _ ⟨_, upd_ρ_same, .inr ⟨_, upd_κ_same, rfl⟩⟩, hst.fresh hid hB.size (fun k hk _ => hB.block k hk) (fun _ => hnL) (.inr ⟨hnI, hnL⟩) he, CxLe.upd _ _ _ hid, fun id h => ⟨upd_ρ (by omega), upd_κ (by omega)⟩,
      Ext.grow (Γ := Γ) (w := w) (w' := w') (fun i hi => upd_ρ (by omega)) (fun i hi => upd_κ (by omega)) (fun _ h => h) (fun _ h => .inl h) hB.os hB.tape hB.output hB.size (fun k hk _ => hB.block k hk) _ (fun k hk => ?_)⟩
    rcases live_fresh hst hid hk with h1 | ⟨rfl, _⟩
    · exact .inl h1
    · exact .inr hg
theorem C164 {l : List Int} {nx : Nat} (hl : l.length ≤ 1000000) : CallD Tryz.prog 164 [.c (ints l)] [] nx (.c (.ms nx l.length)) [(nx, rowv 3 1 r1 0 l)] (nx + 1) := by
  obtain ⟨hent, _⟩ := fn164
  refine ⟨hent, Nat.le_succ _, fun Γ w us hst hno hr => ?_⟩
  obtain ⟨us⟩ := us
  obtain ⟨u0, rfl⟩ : ∃ u0, us = [u0] := by
    have := hr.1
    match us, this with
    | [u0], _ => exact ⟨_, rfl⟩
  have q0 := hr.2 0 _ u0 rfl rfl
  have hid := hno nx (Nat.le_refl _) (Nat.lt_succ_self _)
  cases q0 with | c _ u h =>
  have h : RepD Γ.I w (.sl 1 l.length fun i => r1 (l.getD i 0)) u0 := h
  generalize hd : D.sl 1 l.length (fun i => r1 (l.getD i 0)) = d at h
  cases h with
  | v x h => cases hd
  | slE s f A c =>
    simp only [D.sl.injEq] at hd
    obtain ⟨_, h0, _⟩ := hd
    obtain rfl := List.length_eq_zero_iff.1 h0
    cases A with
    | none =>
      refine (Any.slices_Clone_int_nil kloL 0 c w).mono fun e w' ⟨he, hw⟩ => ?_
      subst hw
      obtain ⟨h1, h2⟩ := name_nil (base := 0) hst hid (Nat.zero_le _) 3 1 (fun i => r1 (([] : List Int).getD i 0))
      exact ⟨_, _, he, .c _ _ ⟨_, upd_ρ_same, .inl ⟨rfl, upd_κ_same, rfl⟩⟩, h1, CxLe.upd _ _ _ hid, fun id h => ⟨upd_ρ (by omega), upd_κ (by omega)⟩, h2⟩
    | some a =>
      refine (Any.slices_Clone_int_zero kloL a c w).mono fun e w' ⟨v', he, hown, hnil, hB⟩ => ?_
      obtain ⟨Γ', h1, h2, h3, h4, h5⟩ := own_post (l := []) hst hid hown hnil hB
      exact ⟨_, Γ', he, h1, h2, h3, h4, h5⟩
  | sl s n f ad c U hn hI hs hc hr' =>
    simp only [D.sl.injEq] at hd
    obtain ⟨rfl, rfl, rfl⟩ := hd
    have hcell : ∀ j, j < l.length → w.cell? (ad.add j) = some (.int .i64 (l.getD j 0)) := fun j hj => by
      have h1 := hc j 0 (dI (l.getD j 0)) hj rfl
      have h2 := hr' j 0 (dI (l.getD j 0)) hj rfl
      rw [Nat.mul_one, Nat.add_zero] at h1
      rw [h1]
      generalize U j 0 = u at h2
      cases h2; rfl
    rcases Nat.eq_zero_or_pos l.length with h0 | h0
    · obtain rfl := List.length_eq_zero_iff.1 h0
      refine (Any.slices_Clone_int_zero kloL ad c w).mono fun e w' ⟨v', he, hown, hnil, hB⟩ => ?_
      obtain ⟨Γ', h1, h2, h3, h4, h5⟩ := own_post (l := []) hst hid hown hnil hB
      exact ⟨_, Γ', he, h1, h2, h3, h4, h5⟩
    · obtain ⟨b, off, sp⟩ := ad
      have hsp : sp = none := by
        have := hcell 0 h0
        rw [add_zero] at this
        cases sp with
        | none => rfl
        | some x =>
          simp only [World.cell?] at this
          split at this <;> simp at this
      subst hsp
      refine (Any.slices_Clone_int kloL b off l.length c l w (Nat.le_refl _) (by omega) (fun j hj => by have := hcell j hj; rwa [Addr.add_lit] at this)).mono fun e w' ⟨v', he, hown, hnil, hB⟩ => ?_
      rw [List.take_of_length_le (Nat.le_refl _)] at hown
      obtain ⟨Γ', h1, h2, h3, h4, h5⟩ := own_post (l := l) hst hid hown hnil hB
      exact ⟨_, Γ', he, h1, h2, h3, h4, h5⟩
theorem C267e {x : Int} {a b nx : Nat} {f g : Nat → List D} (hg : g 0 = r1 x) (hab : a ≠ b) :
    CallD Tryz.prog 267 [.c (.ms a 0), vi .i64 0, .c (.ms b 1)] [(a, .row 3 1 0 f false), (b, .row 3 1 1 g false)] nx (.c (ints [x])) [] nx := by
  obtain ⟨hent, _⟩ := fn267
  refine ⟨hent, Nat.le_refl _, fun Γ w us hst _ hr => ?_⟩
  obtain ⟨us⟩ := us
  obtain ⟨u0, u1, u2, rfl⟩ : ∃ u0 u1 u2, us = [u0, u1, u2] := by
    have := hr.1
    match us, this with
    | [u0, u1, u2], _ => exact ⟨_, _, _, rfl⟩
  have q0 := hr.2 0 _ u0 rfl rfl
  have q1 := (hr.2 1 _ u1 rfl rfl).int
  have q2 := hr.2 2 _ u2 rfl rfl
  subst q1
  obtain ⟨bb, c2, xs2, hρb, rfl, hlb, hn2, hcm2, hh2, hx2, hcell2⟩ := row_lies (l := [x]) (one_row hg) hst (by rw [get_next hab]; exact get_here) (by simp) q2
  have hvs : ∀ j v, (vsI [x])[j]? = some v → w.cell? ⟨bb, 0 + j, none⟩ = some v := fun j v hj => by
    obtain ⟨h1, rfl⟩ := vsI_get hj
    rw [Nat.zero_add, cell_row hh2, hcell2 j h1]
  have grow : ∀ (base : Option Addr) (c : Nat), c = 0 → Calls Tryz.prog 267 #[.slice base 0 c, .int .i64 0, .slice (some ⟨bb, 0, none⟩) 1 c2] w fun e w' => ∃ u Γ', e = .returned u ∧ RepV Γ' w' (.c (ints [x])) u ∧ StoreOk Γ' w' [] ∧ CxLe Γ Γ' ∧ (∀ id, ¬ (nx ≤ id ∧ id < nx) → Γ'.ρ id = Γ.ρ id ∧ Γ'.κ id = Γ.κ id) ∧ Ext 0 Γ w [(a, .row 3 1 0 f false), (b, .row 3 1 1 g false)] Γ' w' [] := fun base c hc0 => by
    subst hc0
    have h := Any2.slices_Insert_int_end_grow insL base 0 0 bb 0 1 c2 [] (vsI [x]) w (by decide) (Nat.le_refl _) (by decide) (by decide) rfl rfl (fun _ => rfl) (fun a h j v hj => by cases hj) hvs vsI_one
    refine h.mono fun e w' ⟨he, hw⟩ => ?_
    have := shut_post (w' := w') (nx := nx) (ys := [x]) (B := w.heap.size) (cap := grownCap w (0 + 1) 0 (insL_ren.t 3)) hst (.inr (Nat.le_refl _)) (by rw [hw, alloc_size]; exact Nat.lt_succ_self _) (grownCap_ge w _ _ _) (fun j hj => ?_) (by rw [hw]; rfl) (by rw [hw]; rfl) (by rw [hw]; rfl) (by rw [hw, alloc_size]; exact Nat.le_succ _) (fun k hk hkb => by rw [hw]; exact heap_alloc (w := w.drew) hk)
    · rw [he]; exact this
    · have hj : j < 1 := hj
      obtain rfl : j = 0 := by omega
      rw [hw]
      refine (World.cell?_alloc_new w.drew _ _ 0).trans ?_
      rw [Array.getElem?_append_left (by simp)]; rfl
  cases q0 with | c _ u h =>
  obtain ⟨ba, hρa, ⟨_, _, rfl⟩ | ⟨c, hκ, rfl⟩⟩ := h
  · exact grow none 0 rfl
  · rcases Nat.eq_zero_or_pos c with hc0 | hc0
    · exact grow _ c hc0
    · obtain ⟨b', hb', hok⟩ := hst.ok a _ get_here
      rw [hρa] at hb'; cases hb'
      rcases hok with ⟨h1, _⟩ | ⟨c', hk, _, hI, hn, hm, _, xs, hh, hx, hcell⟩
      · rw [hκ] at h1; cases h1
      · rw [hκ] at hk; cases hk
        have hla : LiveId Γ [(a, .row 3 1 0 f false), (b, .row 3 1 1 g false)] a := .inr (.inl ⟨_, _, _, _, get_here, c, hκ⟩)
        have hlt : ba < w.heap.size := (Array.getElem?_eq_some_iff.1 hh).1
        have hs1 : ∀ j, j < (vsI [x]).length → (w.cell? ⟨ba, 0 + 0 + j, none⟩).isSome = true := fun j hj => by
          have hj : j < 1 := hj
          rw [cell_row hh, Array.getElem?_eq_getElem (by omega)]; rfl
        have h := Any2.slices_Insert_int_end_room insL ba 0 0 c bb 0 1 c2 (vsI [x]) w (by decide) (by omega) (by unfold maxLen at hm; omega) rfl hs1 (fun j _ => frozen_row hh _) hvs vsI_one
        refine h.mono fun e w' ⟨he, hw⟩ => ?_
        have := shut_post (w' := w') (nx := nx) (ys := [x]) (B := ba) (cap := c) hst (.inl ⟨a, hla, hρa⟩) (by rw [hw, size_setCells]; exact hlt) hc0 (fun j hj => ?_) (by rw [hw, os_setCells]) (by rw [hw, tape_setCells]) (by rw [hw, output_setCells]) (by rw [hw, size_setCells]; exact Nat.le_refl _) (fun k hk hkb => by rw [hw, heapo_setCells ba hkb])
        · rw [he]; exact this
        · have hj : j < 1 := hj
          obtain rfl : j = 0 := by omega
          rw [hw, sc_get hs1, if_pos ⟨by omega, by show 0 < 0 + 0 + 1; omega⟩]; rfl
theorem C267m {l : List Int} {i : Nat} {x : Int} {a b nx : Nat} {f g : Nat → List D} (hf : ∀ i, i < l.length → f i = r1 (l.getD i 0)) (hg : g 0 = r1 x) (hab : a ≠ b) (hi : i ≤ l.length) (hl : l.length ≤ 1000000) :
    CallD Tryz.prog 267 [.c (.ms a l.length), vi .i64 i, .c (.ms b 1)] [(a, .row 3 1 l.length f false), (b, .row 3 1 1 g false)] nx (.c (ints (insI l i x))) [] nx := by
  rcases Nat.eq_zero_or_pos l.length with h0 | h0
  · obtain rfl := List.length_eq_zero_iff.1 h0
    obtain rfl : i = 0 := by simpa using hi
    exact C267e hg hab
  · exact C267 hf hg hab hi h0 hl
end Go.Pw
set_option linter.unusedSimpArgs false
set_option linter.unusedVariables false
set_option maxHeartbeats 2000000
namespace Go.Pw
set_option maxRecDepth 2000
open Go Go.Proofs A1 A2 A3 A4
def bsI (x : Int) : List Int → Nat
  | [] => 0
  | y :: l => if y < x then bsI x l + 1 else 0
abbrev Srt (l : List Int) : Prop := ∀ i, i + 1 < l.length → l.getD i 0 < l.getD (i + 1) 0
theorem Srt.lt {l : List Int} (h : Srt l) {i : Nat} : ∀ {j : Nat}, i < j → j < l.length → l.getD i 0 < l.getD j 0
  | 0, h1, _ => by omega
  | j + 1, h1, h2 => by
    rcases Nat.lt_or_ge i j with h3 | h3
    · exact Int.lt_trans (Srt.lt h h3 (by omega)) (h j h2)
    · obtain rfl : i = j := by omega
      exact h i h2
theorem Srt.tail {y : Int} {l : List Int} (h : Srt (y :: l)) : Srt l := fun i hi => by
  have := h (i + 1) (by simp; omega)
  simpa using this
theorem bsI_le (x : Int) : ∀ l : List Int, bsI x l ≤ l.length
  | [] => Nat.le_refl _
  | y :: l => by
    rw [bsI]
    split
    · have := bsI_le x l; simp; omega
    · exact Nat.zero_le _
theorem bsI_lt (x : Int) : ∀ {l : List Int} {j : Nat}, j < bsI x l → l.getD j 0 < x
  | [], j, h => by cases h
  | y :: l, j, h => by
    rw [bsI] at h
    split at h
    · rename_i h1
      cases j with
      | zero => exact h1
      | succ j => simpa using bsI_lt x (l := l) (j := j) (by omega)
    · cases h
theorem bsI_ge (x : Int) : ∀ {l : List Int} {j : Nat}, Srt l → bsI x l ≤ j → j < l.length → x ≤ l.getD j 0
  | [], j, _, _, h => by cases h
  | y :: l, j, hs, h, hj => by
    rw [bsI] at h
    split at h
    · cases j with
      | zero => omega
      | succ j => simpa using bsI_ge x (l := l) (j := j) hs.tail (by omega) (by simpa using hj)
    · rename_i h1
      cases j with
      | zero => simp; omega
      | succ j =>
        have := hs.lt (i := 0) (j := j + 1) (by omega) hj
        simp at this ⊢; omega
theorem bsI_eq {x : Int} {l : List Int} {k : Nat} (hs : Srt l) (hk : k ≤ l.length) (h1 : ∀ j, j < k → l.getD j 0 < x) (h2 : ∀ j, k ≤ j → j < l.length → x ≤ l.getD j 0) : bsI x l = k := by
  have h3 := bsI_le x l
  rcases Nat.lt_trichotomy (bsI x l) k with h | h | h
  · have := h1 _ h
    have := bsI_ge x hs (Nat.le_refl _) (by omega)
    omega
  · exact h
  · have := bsI_lt x h
    have := h2 k (Nat.le_refl _) (by omega)
    omega
theorem C266 {l : List Int} {x : Int} : (Srt l ∧ l.length ≤ 1000000) → PFD Tryz.prog 266 [.c (ints l), vi .i64 x] (.tup [vi .i64 (bsI x l), vbl (decide ((bsI x l : Int) < l.length ∧ l.getD (bsI x l) 0 = x))]) := fun ⟨hs, hl⟩ => by
  refine pi2 fn266 ?_
  (repeat' first | (refine Owe.same ?_; first | refine Owe.o ?_ | refine Owe.mk ?_ ?_) | (refine Fork.same ?_; (first | refine fkD ?_ ?_ | refine fkN ?_ ?_ | refine fkM ?_ ?_) <;> intro h) | refine MvQ.stay ?_)
  refine Sat.lp0 (fun p : Nat × Nat => [(7, vi .i64 p.1), (8, vi .i64 p.2), (6, vi .i64 l.length), (0, .c (ints l)), (1, vi .i64 x)]) (fun p => p.1 ≤ p.2 ∧ p.2 ≤ l.length ∧ (∀ j, j < p.1 → l.getD j 0 < x) ∧ ∀ j, p.2 ≤ j → j < l.length → x ≤ l.getD j 0) (fun p => p.2 - p.1) (0, l.length) ⟨Nat.zero_le _, Nat.le_refl _, fun j hj => by omega, fun j h1 h2 => by simp only at h1; omega⟩ (by ((first | refine qen ?_ | refine qvs ?_ | refine qeq ?_ | refine qst ?_ | refine qv ?_ | refine qc ?_ | refine qe ?_ | refine qcs ?_ | skip); (repeat' first | exact rfl | (refine qS ?_; constructor)))) ?_
  intro ⟨i, k⟩ ⟨hik, hk, h1, h2⟩
  simp only at hik hk h1 h2
  refine Fork.dec (fun hlt => ?_) (fun hlt => ?_)
  · have hlt : i < k := by simpa using hlt
    obtain ⟨m, hm⟩ : ∃ m : Nat, (IntKind.u64.wrap ((i : Int) + (k : Int))).fdiv (2 ^ min (Int.toNat 1) IntKind.u64.bits) = (m : Int) ∧ m = (i + k) / 2 := by
      refine ⟨(i + k) / 2, ?_, rfl⟩
      have e1 : IntKind.u64.wrap ((i : Int) + (k : Int)) = ((i + k : Nat) : Int) := by
        rw [show (i : Int) + (k : Int) = ((i + k : Nat) : Int) by omega]
        simp [IntKind.wrap, IntKind.bits, IntKind.signed]; omega
      rw [e1, show (2 : Int) ^ min (Int.toNat 1) IntKind.u64.bits = 2 by decide, Int.fdiv_eq_ediv_of_nonneg _ (by decide)]
      omega
    obtain ⟨hm, hm2⟩ := hm
    have hmb : i ≤ m ∧ m < k := by omega
    (repeat' first | (refine Owe.same ?_; first | refine Owe.o ?_ | refine Owe.mk ?_ ?_) | (refine Fork.same ?_; (first | refine fkD ?_ ?_ | refine fkN ?_ ?_ | refine fkM ?_ ?_) <;> intro h) | ((first | refine OpsL.same ?_ | refine OpsDL.same ?_); first | refine pK C291 rfl rfl ?_) | refine MvQ.stay ?_)
    · have h : l.getD ((IntKind.u64.wrap ((i : Int) + (k : Int))).fdiv (2 ^ min (Int.toNat 1) IntKind.u64.bits)).toNat 0 < x := h
      rw [hm, Int.toNat_natCast] at h
      refine again0 (m + 1, k) ⟨by simp only; omega, by simp only; omega, fun j hj => ?_, h2⟩ (by simp only; omega) ?_
      · rcases Nat.lt_or_ge j m with h3 | h3
        · exact Int.lt_trans (hs.lt h3 (by omega)) h
        · obtain rfl : j = m := by simp only at hj; omega
          exact h
      · ((first | refine qen ?_ | refine qvs ?_ | refine qeq ?_ | refine qst ?_ | refine qv ?_ | refine qc ?_ | refine qe ?_ | refine qcs ?_ | skip); (repeat' first | exact rfl | (refine qS ?_; constructor)))
        show (IntKind.u64.wrap ((i : Int) + (k : Int))).fdiv (2 ^ min (Int.toNat 1) IntKind.u64.bits) + 1 = ((m + 1 : Nat) : Int)
        omega
    · have h : ¬ l.getD ((IntKind.u64.wrap ((i : Int) + (k : Int))).fdiv (2 ^ min (Int.toNat 1) IntKind.u64.bits)).toNat 0 < x := h
      rw [hm, Int.toNat_natCast] at h
      refine again0 (i, m) ⟨by simp only; omega, by simp only; omega, h1, fun j hj hj2 => ?_⟩ (by simp only; omega) ?_
      · simp only at hj
        rcases Nat.eq_or_lt_of_le hj with h3 | h3
        · subst h3; omega
        · have := hs.lt h3 hj2; omega
      · ((first | refine qen ?_ | refine qvs ?_ | refine qeq ?_ | refine qst ?_ | refine qv ?_ | refine qc ?_ | refine qe ?_ | refine qcs ?_ | skip); (repeat' first | exact rfl | (refine qS ?_; constructor)))
        exact hm
  · have hlt : ¬ i < k := by simpa using hlt
    obtain rfl : i = k := by omega
    have e := bsI_eq hs hk h1 h2
    rw [e]
    (repeat' first | (refine Owe.same ?_; first | refine Owe.o ?_ | refine Owe.mk ?_ ?_) | (refine Fork.same ?_; (first | refine fkY ?_ | refine fkF ?_ | ((first | refine fkD ?_ ?_ | refine fkN ?_ ?_ | refine fkM ?_ ?_) <;> intro h))) | ((first | refine OpsL.same ?_ | refine OpsDL.same ?_); first | refine oK C292 rfl rfl rfl ?_) | refine MvQ.stay ?_)
    · rename_i h0
      have h : l.getD i 0 = x := h
      have h0 : (i : Int) < l.length := h0
      (refine rqK rfl ?_; (repeat' first | exact rfl | (refine qS ?_; constructor)))
      have hf : decide ((i : Int) < l.length ∧ l.getD i 0 = x) = true := decide_eq_true ⟨h0, h⟩
      first | exact hf | exact hf.symm
    · rename_i h0
      have h : ¬ l.getD i 0 = x := h
      (refine rqK rfl ?_; (repeat' first | exact rfl | (refine qS ?_; constructor)))
      have hf : decide ((i : Int) < l.length ∧ l.getD i 0 = x) = false := decide_eq_false fun hh => h hh.2
      first | exact hf | exact hf.symm
    · have h : ¬ (i : Int) < l.length := h
      (refine rqK rfl ?_; (repeat' first | exact rfl | (refine qS ?_; constructor)))
      have hf : decide ((i : Int) < l.length ∧ l.getD i 0 = x) = false := decide_eq_false fun hh => h hh.1
      first | exact hf | exact hf.symm
theorem C144 {s : Si} {t : St8} {n : Int} : t.d.length ≤ 1000000 → PFD Tryz.prog 144 [div s t, vi .i64 n] (vbl (decide (n ∈ t.d))) := fun h => by
  have c1 := C186 (l := t.d) (n := n) h
  refine pi1 fn144 ?_
  (repeat' first | (refine Owe.same ?_; first | refine Owe.o ?_ | refine Owe.mk ?_ ?_) | (refine Fork.same ?_; (first | refine fkD ?_ ?_ | refine fkN ?_ ?_ | refine fkM ?_ ?_) <;> intro h) | ((first | refine OpsL.same ?_ | refine OpsDL.same ?_); first | refine pK c1 rfl rfl ?_) | refine MvQ.stay ?_)
  (refine rqK rfl ?_; (repeat' first | exact rfl | (refine qS ?_; constructor)))
theorem C254 {s : Si} {t : St8} {n : Int} : t.d.length ≤ 1000000 → PFD Tryz.prog 254 [vi .i64 n, .c (.rp (diD s t))] (vbl (!decide (n ∈ t.d))) := fun h => by
  have c1 := C144 (s := s) (t := t) (n := n) h
  refine pi1 fn254 ?_
  (repeat' first | (refine Owe.same ?_; first | refine Owe.o ?_ | refine Owe.mk ?_ ?_) | (refine Fork.same ?_; (first | refine fkD ?_ ?_ | refine fkN ?_ ?_ | refine fkM ?_ ?_) <;> intro h) | ((first | refine OpsL.same ?_ | refine OpsDL.same ?_); first | refine pK c1 rfl rfl ?_) | refine MvQ.stay ?_)
  (refine rqK rfl ?_; (repeat' first | exact rfl | (refine qS ?_; constructor)))
end Go.Pw
