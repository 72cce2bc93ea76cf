/- Steps toward the row of this claim: part 4 of 6. Proved as named below, on no condition but those that each theorem states. -/
import Derived.Test.YtnimcgmgnmlfgaaGreatDiveBoundedC
import Derived.Test.YtnimcgmgnmlfgaaGreatProg
import Derived.Shelf.Spec.SlicesInsert
import Derived.Shelf.Spec.SlicesInsertGrow
import Derived.Shelf.Slices.Clone
set_option linter.unusedVariables false
set_option maxHeartbeats 2000000
set_option maxRecDepth 100000
namespace Go.Pw
open Go Go.Proofs
/-- moonpool/moonpoolbase.Gcd -/
def lc91 : LCode :=
  (.seq (.region [⟨some 4, .mv (.const (.int .i64 0)), none⟩]) (.seq (.block 0 (.loop (.seq (.seq (.region [⟨some 5, .mv (.tmp 1), none⟩, ⟨some 6, .bin .neq (.tmp 5) (.const (.int
    .i64 0)), none⟩]) (.cond (.tmp 6) .skip (.exit 0))) (.block 1 (.regionD [⟨some 7, .mv (.tmp 1), none⟩, ⟨some 8, .mv (.tmp 0), none⟩, ⟨some 9, .mv (.tmp 1), none⟩, ⟨some 10, .bin
    .rem (.tmp 8) (.tmp 9), none⟩, ⟨some 0, .mv (.tmp 7), none⟩, ⟨some 1, .mv (.tmp 10), none⟩] [0, 0, 0, 6, 3, 31] [0, 1, 2, 3, 4, 5]))))) (.seq (.region [⟨some 11, .mv (.tmp 0),
    none⟩, ⟨some 12, .call (.func 118) [(.tmp 11)], none⟩, ⟨some 4, .mv (.tmp 12), none⟩]) .ret)))
theorem low91 : lowF Tryz.prog [] Tryz.f91 = some (13, lc91.strip, [.tmp 4]) := by kernel_rfl
theorem fn91 : FnOk Tryz.prog 91 13 lc91 [.tmp 4] := ⟨Tryz.call91, [], _, Tryz.func91, low91⟩
/-- (moonpool/dive.dive).waited -/
def lc92 : LCode :=
  (.seq (.region [⟨some 2, .box (.tmp 0), none⟩, ⟨some 4, .alloc [(.slice none 0 0), (.slice none 0 0), (.slice none 0 0), (.slice none 0 0), (.int .i64 0), (.int .i64 0), (.int
    .i64 0), (.int .i64 0), (.int .i64 0), (.int .i64 0), (.int .i64 0), (.int .i64 0), (.slice none 0 0)], none⟩]) (.seq (.region [⟨some 5, .fld 8 (.tmp 2), none⟩, ⟨some 6, .fld 2
    (.tmp 5), none⟩, ⟨some 7, .load false 1 (.tmp 6), none⟩, ⟨some 8, .mv (.tmp 1), none⟩, ⟨some 9, .fld 8 (.tmp 2), none⟩, ⟨some 10, .fld 1 (.tmp 9), none⟩, ⟨some 11, .load false 1
    (.tmp 10), none⟩, ⟨some 12, .bin .sub (.tmp 8) (.tmp 11), none⟩, ⟨some 13, .fld 0 (.tmp 2), none⟩, ⟨some 14, .fld 4 (.tmp 13), none⟩, ⟨some 15, .load false 1 (.tmp 14), none⟩,
    ⟨some 16, .bin .mul (.tmp 12) (.tmp 15), none⟩, ⟨some 17, .bin .sub (.tmp 7) (.tmp 16), none⟩, ⟨some 18, .fld 8 (.tmp 2), none⟩, ⟨some 19, .fld 2 (.tmp 18), none⟩, ⟨none, .store
    1 (.tmp 19) (.tmp 17), none⟩]) (.seq (.region [⟨some 20, .mv (.tmp 1), none⟩, ⟨some 21, .fld 8 (.tmp 2), none⟩, ⟨some 22, .fld 1 (.tmp 21), none⟩, ⟨none, .store 1 (.tmp 22)
    (.tmp 20), none⟩]) (.seq (.region [⟨some 23, .load true 13 (.tmp 2), none⟩, ⟨none, .store 13 (.tmp 4) (.tmp 23), none⟩]) .ret))))
theorem low92 : lowF Tryz.prog [] Tryz.f92 = some (24, lc92.strip, [.cell 4 true 13]) := by kernel_rfl
theorem fn92 : FnOk Tryz.prog 92 24 lc92 [.cell 4 true 13] := ⟨Tryz.call92, [], _, Tryz.func92, low92⟩
/-- moonpool/dive.CheckState -/
def lc93 : LCode :=
  (.seq (.region [⟨some 2, .boxS (.tmp 0), none⟩, ⟨some 3, .boxS (.tmp 1), none⟩, ⟨some 4, .mv (.const (.int .i64 0)), none⟩, ⟨some 5, .mv (.const (.int .i64 0)), none⟩]) (.seq
    (.region [⟨some 9, .load true 8 (.tmp 2), none⟩, ⟨some 10, .call (.func 73) [(.tmp 9)], none⟩, ⟨some 8, .mv (.tmp 10), none⟩, ⟨some 11, .ext (.tmp 8) 0, none⟩, ⟨some 12, .ext
    (.tmp 8) 1, none⟩, ⟨some 6, .mv (.tmp 11), none⟩, ⟨some 7, .mv (.tmp 12), none⟩]) (.seq (.seq (.regionD [⟨some 13, .mv (.tmp 7), none⟩, ⟨some 14, .fld 0 (.tmp 3), none⟩, ⟨some
    15, .load false 1 (.tmp 14), none⟩, ⟨some 16, .fld 2 (.tmp 2), none⟩, ⟨some 17, .load false 1 (.tmp 16), none⟩, ⟨some 18, .len (.tmp 17), none⟩, ⟨some 19, .bin .sub (.tmp 18)
    (.const (.int .i64 1)), none⟩, ⟨some 20, .call (.func 69) [(.tmp 15), (.const (.int .i64 0)), (.tmp 19)], none⟩, ⟨some 21, .call (.func 55) [(.tmp 20), (.const (.int .i64 6))],
    none⟩, ⟨some 22, .fld 1 (.tmp 3), none⟩, ⟨some 23, .load false 1 (.tmp 22), none⟩, ⟨some 24, .call (.func 113) [(.tmp 23)], none⟩, ⟨some 25, .mv (.tmp 24), none⟩, ⟨some 26, .fld
    2 (.tmp 3), some (25, true)⟩, ⟨some 27, .load false 1 (.tmp 26), some (25, true)⟩, ⟨some 28, .call (.func 69) [(.tmp 27), (.const (.int .i64 0)), (.const (.int .i64
    100000000))], some (25, true)⟩, ⟨some 29, .pick (.tmp 25) (.tmp 28) (.const (.bool false)), none⟩, ⟨some 30, .mv (.tmp 29), none⟩, ⟨some 31, .fld 3 (.tmp 3), some (30, true)⟩,
    ⟨some 32, .load false 1 (.tmp 31), some (30, true)⟩, ⟨some 33, .call (.func 84) [(.tmp 32)], some (30, true)⟩, ⟨some 34, .pick (.tmp 30) (.tmp 33) (.const (.bool false)), none⟩,
    ⟨some 35, .call (.func 55) [(.tmp 34), (.const (.int .i64 2))], none⟩, ⟨some 36, .lit false 33 1 [(.tmp 13), (.tmp 21), (.tmp 35)], none⟩, ⟨some 37, .call (.func 54) [(.tmp
    36)], none⟩, ⟨some 7, .mv (.tmp 37), none⟩] [0, 0, 2, 0, 8, 24, 56, 126, 254, 0, 512, 2046, 4094, 8190, 16382, 32766, 65534, 131070, 262142, 524286, 1048574, 2097150, 4194302,
    8388607, 16777215, 33554431] [0, 1, 2, 3, 4, 5, 6, 7, 8, 9, 10, 11, 12, 13, 14, 15, 16, 17, 18, 19, 20, 21, 22, 23, 24, 25]) (.seq (.region [⟨some 38, .mv (.tmp 7), none⟩, ⟨some
    39, .bin .neq (.tmp 38) (.const (.int .i64 0)), none⟩]) (.cond (.tmp 39) (.seq (.region [⟨some 40, .mv (.tmp 7), none⟩, ⟨some 4, .mv (.const (.int .i64 0)), none⟩, ⟨some 5, .mv
    (.tmp 40), none⟩]) .ret) .skip))) (.seq (.region [⟨some 41, .fld 4 (.tmp 3), none⟩, ⟨some 42, .load false 1 (.tmp 41), none⟩, ⟨some 43, .fld 0 (.tmp 2), none⟩, ⟨some 44, .load
    false 1 (.tmp 43), none⟩, ⟨some 45, .len (.tmp 44), none⟩, ⟨some 46, .call (.func 119) [(.tmp 42), (.tmp 45)], none⟩, ⟨some 47, .ext (.tmp 46) 0, none⟩, ⟨some 48, .ext (.tmp 46)
    1, none⟩, ⟨some 4, .mv (.tmp 47), none⟩, ⟨some 5, .mv (.tmp 48), none⟩]) .ret))))
theorem low93 : lowF Tryz.prog [2, 3] Tryz.f93 = some (49, lc93.strip, [.tmp 4, .tmp 5]) := by kernel_rfl
theorem fn93 : FnOk Tryz.prog 93 49 lc93 [.tmp 4, .tmp 5] := ⟨Tryz.call93, [2, 3], _, Tryz.func93, low93⟩
/-- moonpool/dive.each[int] -/
def lc94 : LCode :=
  (.seq (.region [⟨some 4, .mv (.const (.int .i64 0)), none⟩, ⟨some 5, .mv (.const (.int .i64 0)), none⟩]) (.seq (.seq (.region [⟨some 9, .mv (.tmp 0), none⟩, ⟨some 10, .len (.tmp
    9), none⟩, ⟨some 11, .mv (.const (.int .i64 0)), none⟩]) (.block 0 (.loop (.seq (.region [⟨some 12, .bin .lss (.tmp 11) (.tmp 10), none⟩]) (.seq (.cond (.tmp 12) .skip (.exit
    0)) (.seq (.block 1 (.seq (.region [⟨some 13, .mv (.tmp 11), none⟩, ⟨some 14, .idx 1 (.tmp 9) (.tmp 11), none⟩, ⟨some 15, .load false 1 (.tmp 14), none⟩, ⟨some 6, .mv (.tmp 13),
    none⟩, ⟨some 7, .mv (.tmp 15), none⟩]) (.seq (.region [⟨some 16, .mv (.tmp 1), none⟩, ⟨some 17, .mv (.tmp 6), none⟩, ⟨some 18, .mv (.tmp 7), none⟩, ⟨some 19, .call (.tmp 16)
    [(.tmp 17), (.tmp 18)], none⟩, ⟨some 8, .mv (.tmp 19), none⟩]) (.seq (.region [⟨some 20, .mv (.tmp 8), none⟩, ⟨some 21, .bin .neq (.tmp 20) (.const (.int .i64 0)), none⟩])
    (.cond (.tmp 21) (.seq (.region [⟨some 22, .mv (.tmp 6), none⟩, ⟨some 23, .mv (.tmp 8), none⟩, ⟨some 4, .mv (.tmp 22), none⟩, ⟨some 5, .mv (.tmp 23), none⟩]) .ret) .skip)))))
    (.region [⟨some 24, .bin .add (.tmp 11) (.const (.int .i64 1)), none⟩, ⟨some 11, .mv (.tmp 24), none⟩]))))))) (.seq (.region [⟨some 4, .mv (.const (.int .i64 0)), none⟩, ⟨some
    5, .mv (.const (.int .i64 0)), none⟩]) .ret)))
theorem low94 : lowF Tryz.prog [] Tryz.f94 = some (25, lc94.strip, [.tmp 4, .tmp 5]) := by kernel_rfl
theorem fn94 : FnOk Tryz.prog 94 25 lc94 [.tmp 4, .tmp 5] := ⟨Tryz.call94, [], _, Tryz.func94, low94⟩
/-- slices.Contains[[]int,int] -/
def lc96 : LCode :=
  (.seq (.region [⟨some 4, .mv (.const (.bool false)), none⟩]) (.seq (.region [⟨some 5, .mv (.tmp 0), none⟩, ⟨some 6, .mv (.tmp 1), none⟩, ⟨some 7, .call (.func 120) [(.tmp 5),
    (.tmp 6)], none⟩, ⟨some 8, .bin .geq (.tmp 7) (.const (.int .i64 0)), none⟩, ⟨some 4, .mv (.tmp 8), none⟩]) .ret))
theorem low96 : lowF Tryz.prog [] Tryz.f96 = some (9, lc96.strip, [.tmp 4]) := by kernel_rfl
theorem fn96 : FnOk Tryz.prog 96 9 lc96 [.tmp 4] := ⟨Tryz.call96, [], _, Tryz.func96, low96⟩
/-- slices.IndexFunc[[]int,int] -/
def lc97 : LCode :=
  (.seq (.region [⟨some 4, .mv (.const (.int .i64 0)), none⟩]) (.seq (.seq (.region [⟨some 6, .mv (.tmp 0), none⟩, ⟨some 7, .len (.tmp 6), none⟩, ⟨some 8, .mv (.const (.int .i64
    0)), none⟩]) (.block 0 (.loop (.seq (.region [⟨some 9, .bin .lss (.tmp 8) (.tmp 7), none⟩]) (.seq (.cond (.tmp 9) .skip (.exit 0)) (.seq (.block 1 (.seq (.region [⟨some 10, .mv
    (.tmp 8), none⟩, ⟨some 5, .mv (.tmp 10), none⟩]) (.seq (.region [⟨some 11, .mv (.tmp 1), none⟩, ⟨some 12, .mv (.tmp 0), none⟩, ⟨some 13, .mv (.tmp 5), none⟩, ⟨some 14, .idx 1
    (.tmp 12) (.tmp 13), none⟩, ⟨some 15, .load false 1 (.tmp 14), none⟩, ⟨some 16, .call (.tmp 11) [(.tmp 15)], none⟩]) (.cond (.tmp 16) (.seq (.region [⟨some 17, .mv (.tmp 5),
    none⟩, ⟨some 4, .mv (.tmp 17), none⟩]) .ret) .skip)))) (.region [⟨some 18, .bin .add (.tmp 8) (.const (.int .i64 1)), none⟩, ⟨some 8, .mv (.tmp 18), none⟩]))))))) (.seq (.region
    [⟨some 4, .mv (.const (.int .i64 (-1))), none⟩]) .ret)))
theorem low97 : lowF Tryz.prog [] Tryz.f97 = some (19, lc97.strip, [.tmp 4]) := by kernel_rfl
theorem fn97 : FnOk Tryz.prog 97 19 lc97 [.tmp 4] := ⟨Tryz.call97, [], _, Tryz.func97, low97⟩
/-- slices.Concat[[]int,int] -/
def lc98 : LCode :=
  (.seq (.region [⟨some 2, .mv (.const (.slice none 0 0)), none⟩]) (.seq (.region [⟨some 3, .mv (.const (.int .i64 0)), none⟩]) (.seq (.seq (.region [⟨some 9, .mv (.tmp 0), none⟩,
    ⟨some 10, .len (.tmp 9), none⟩, ⟨some 11, .mv (.const (.int .i64 0)), none⟩]) (.block 0 (.loop (.seq (.region [⟨some 12, .bin .lss (.tmp 11) (.tmp 10), none⟩]) (.seq (.cond
    (.tmp 12) .skip (.exit 0)) (.seq (.block 1 (.seq (.region [⟨some 13, .idx 1 (.tmp 9) (.tmp 11), none⟩, ⟨some 14, .load false 1 (.tmp 13), none⟩, ⟨some 5, .mv (.tmp 14), none⟩])
    (.seq (.region [⟨some 15, .mv (.tmp 3), none⟩, ⟨some 16, .mv (.tmp 5), none⟩, ⟨some 17, .len (.tmp 16), none⟩, ⟨some 18, .bin .add (.tmp 15) (.tmp 17), none⟩, ⟨some 3, .mv (.tmp
    18), none⟩]) (.seq (.region [⟨some 19, .mv (.tmp 3), none⟩, ⟨some 20, .bin .lss (.tmp 19) (.const (.int .i64 0)), none⟩]) (.cond (.tmp 20) (.region [⟨some 21, .bad, none⟩,
    ⟨none, .bad, none⟩]) .skip))))) (.region [⟨some 22, .bin .add (.tmp 11) (.const (.int .i64 1)), none⟩, ⟨some 11, .mv (.tmp 22), none⟩]))))))) (.seq (.region [⟨some 23, .mv (.tmp
    3), none⟩, ⟨some 24, .call (.func 121) [(.const (.slice none 0 0)), (.tmp 23)], none⟩, ⟨some 6, .mv (.tmp 24), none⟩]) (.seq (.seq (.region [⟨some 25, .mv (.tmp 0), none⟩, ⟨some
    26, .len (.tmp 25), none⟩, ⟨some 27, .mv (.const (.int .i64 0)), none⟩]) (.block 2 (.loop (.seq (.region [⟨some 28, .bin .lss (.tmp 27) (.tmp 26), none⟩]) (.seq (.cond (.tmp 28)
    .skip (.exit 2)) (.seq (.block 3 (.seq (.region [⟨some 29, .idx 1 (.tmp 25) (.tmp 27), none⟩, ⟨some 30, .load false 1 (.tmp 29), none⟩, ⟨some 8, .mv (.tmp 30), none⟩]) (.region
    [⟨some 31, .mv (.tmp 6), none⟩, ⟨some 32, .mv (.tmp 8), none⟩, ⟨some 33, .append true 3 1 8 (.tmp 31) (.tmp 32), none⟩, ⟨some 6, .mv (.tmp 33), none⟩]))) (.region [⟨some 34,
    .bin .add (.tmp 27) (.const (.int .i64 1)), none⟩, ⟨some 27, .mv (.tmp 34), none⟩]))))))) (.seq (.region [⟨some 35, .mv (.tmp 6), none⟩, ⟨some 2, .mv (.tmp 35), none⟩])
    .ret))))))
theorem low98 : lowF Tryz.prog [33] Tryz.f98 = some (36, lc98.strip, [.tmp 2]) := by kernel_rfl
theorem fn98 : FnOk Tryz.prog 98 36 lc98 [.tmp 2] := ⟨Tryz.call98, [33], _, Tryz.func98, low98⟩
/-- (moonpool/dive.dive).together$1 -/
def lc99 : LCode :=
  (.seq (.region [⟨some 3, .mv (.const (.bool false)), none⟩]) (.seq (.region [⟨some 4, .load false 1 (.tmp 1), none⟩, ⟨some 5, .mv (.tmp 0), none⟩, ⟨some 6, .call (.func 96) [(.tmp
    4), (.tmp 5)], none⟩, ⟨some 3, .mv (.tmp 6), none⟩]) .ret))
theorem low99 : lowF Tryz.prog [] Tryz.f99 = some (7, lc99.strip, [.tmp 3]) := by kernel_rfl
theorem fn99 : FnOk Tryz.prog 99 7 lc99 [.tmp 3] := ⟨Tryz.call99, [], _, Tryz.func99, low99⟩
/-- cmp.isNaN[int] -/
def lc101 : LCode :=
  (.seq (.region [⟨some 2, .mv (.const (.bool false)), none⟩]) (.seq (.region [⟨some 3, .mv (.tmp 0), none⟩, ⟨some 4, .mv (.tmp 0), none⟩, ⟨some 5, .bin .neq (.tmp 3) (.tmp 4),
    none⟩, ⟨some 2, .mv (.tmp 5), none⟩]) .ret))
theorem low101 : lowF Tryz.prog [] Tryz.f101 = some (6, lc101.strip, [.tmp 2]) := by kernel_rfl
theorem fn101 : FnOk Tryz.prog 101 6 lc101 [.tmp 2] := ⟨Tryz.call101, [], _, Tryz.func101, low101⟩
/-- moonpool/moonpoolref08.CheckState -/
def lc102 : LCode :=
  (.seq (.region [⟨some 2, .boxS (.tmp 0), none⟩, ⟨some 3, .boxS (.tmp 1), none⟩, ⟨some 4, .mv (.const (.int .i64 0)), none⟩, ⟨some 5, .mv (.const (.int .i64 0)), none⟩]) (.seq
    (.seq (.region [⟨some 7, .fld 0 (.tmp 3), none⟩, ⟨some 8, .load false 1 (.tmp 7), none⟩, ⟨some 9, .fld 2 (.tmp 2), none⟩, ⟨some 10, .load false 1 (.tmp 9), none⟩, ⟨some 11, .len
    (.tmp 10), none⟩, ⟨some 12, .bin .sub (.tmp 11) (.const (.int .i64 1)), none⟩, ⟨some 13, .call (.func 75) [(.tmp 8), (.const (.int .i64 0)), (.tmp 12)], none⟩, ⟨some 14, .un
    .not (.tmp 13), none⟩]) (.cond (.tmp 14) (.seq (.region [⟨some 4, .mv (.const (.int .i64 0)), none⟩, ⟨some 5, .mv (.const (.int .i64 6)), none⟩]) .ret) .skip)) (.seq (.seq
    (.region [⟨some 15, .fld 1 (.tmp 3), none⟩, ⟨some 16, .load false 1 (.tmp 15), none⟩, ⟨some 17, .call (.func 116) [(.tmp 16)], none⟩, ⟨some 18, .un .not (.tmp 17), none⟩, ⟨some
    19, .mv (.tmp 18), none⟩, ⟨some 20, .fld 2 (.tmp 3), some (19, false)⟩, ⟨some 21, .load false 1 (.tmp 20), some (19, false)⟩, ⟨some 22, .call (.func 75) [(.tmp 21), (.const
    (.int .i64 0)), (.const (.int .i64 100000000))], some (19, false)⟩, ⟨some 23, .un .not (.tmp 22), some (19, false)⟩, ⟨some 24, .pick (.tmp 19) (.const (.bool true)) (.tmp 23),
    none⟩, ⟨some 25, .mv (.tmp 24), none⟩, ⟨some 26, .fld 3 (.tmp 3), some (25, false)⟩, ⟨some 27, .load false 1 (.tmp 26), some (25, false)⟩, ⟨some 28, .call (.func 115) [(.tmp
    27)], some (25, false)⟩, ⟨some 29, .un .not (.tmp 28), some (25, false)⟩, ⟨some 30, .pick (.tmp 25) (.const (.bool true)) (.tmp 29), none⟩]) (.cond (.tmp 30) (.seq (.region
    [⟨some 4, .mv (.const (.int .i64 0)), none⟩, ⟨some 5, .mv (.const (.int .i64 2)), none⟩]) .ret) .skip)) (.seq (.seq (.region [⟨some 6, .mv (.const (.int .i64 0)), none⟩])
    (.block 0 (.loop (.seq (.seq (.region [⟨some 31, .mv (.tmp 6), none⟩, ⟨some 32, .fld 4 (.tmp 3), none⟩, ⟨some 33, .load false 1 (.tmp 32), none⟩, ⟨some 34, .len (.tmp 33),
    none⟩, ⟨some 35, .bin .lss (.tmp 31) (.tmp 34), none⟩]) (.cond (.tmp 35) .skip (.exit 0))) (.seq (.block 1 (.seq (.seq (.regionD [⟨some 38, .load true 8 (.tmp 2), none⟩, ⟨some
    39, .fld 4 (.tmp 3), none⟩, ⟨some 40, .load false 1 (.tmp 39), none⟩, ⟨some 41, .mv (.tmp 6), none⟩, ⟨some 42, .idx 1 (.tmp 40) (.tmp 41), none⟩, ⟨some 43, .load false 1 (.tmp
    42), none⟩, ⟨some 44, .call (.func 26) [(.tmp 38), (.tmp 43)], none⟩, ⟨some 45, .un .not (.tmp 44), none⟩] [0, 0, 2, 0, 14, 30, 63, 127] [0, 1, 2, 3, 4, 5, 6, 7]) (.cond (.tmp
    45) (.seq (.region [⟨some 46, .mv (.tmp 6), none⟩, ⟨some 4, .mv (.tmp 46), none⟩, ⟨some 5, .mv (.const (.int .i64 6)), none⟩]) .ret) .skip)) (.seq (.regionD [⟨some 47, .mv (.tmp
    6), none⟩, ⟨some 48, .bin .gtr (.tmp 47) (.const (.int .i64 0)), none⟩, ⟨some 49, .mv (.tmp 48), none⟩, ⟨some 50, .fld 4 (.tmp 3), some (49, true)⟩, ⟨some 51, .load false 1
    (.tmp 50), some (49, true)⟩, ⟨some 52, .mv (.tmp 6), some (49, true)⟩, ⟨some 53, .idx 1 (.tmp 51) (.tmp 52), some (49, true)⟩, ⟨some 54, .load false 1 (.tmp 53), some (49,
    true)⟩, ⟨some 55, .fld 4 (.tmp 3), some (49, true)⟩, ⟨some 56, .load false 1 (.tmp 55), some (49, true)⟩, ⟨some 57, .mv (.tmp 6), some (49, true)⟩, ⟨some 58, .bin .sub (.tmp 57)
    (.const (.int .i64 1)), some (49, true)⟩, ⟨some 59, .idx 1 (.tmp 56) (.tmp 58), some (49, true)⟩, ⟨some 60, .load false 1 (.tmp 59), some (49, true)⟩, ⟨some 61, .bin .leq (.tmp
    54) (.tmp 60), some (49, true)⟩, ⟨some 62, .pick (.tmp 49) (.tmp 61) (.const (.bool false)), none⟩] [0, 1, 3, 7, 15, 7, 63, 127, 7, 263, 7, 1031, 3847, 7943, 16383, 32767] [0,
    1, 2, 3, 4, 5, 6, 7, 8, 9, 10, 11, 12, 13, 14, 15]) (.cond (.tmp 62) (.seq (.region [⟨some 63, .mv (.tmp 6), none⟩, ⟨some 4, .mv (.tmp 63), none⟩, ⟨some 5, .mv (.const (.int
    .i64 9)), none⟩]) .ret) .skip)))) (.region [⟨some 36, .mv (.tmp 6), none⟩, ⟨some 37, .bin .add (.tmp 36) (.const (.int .i64 1)), none⟩, ⟨some 6, .mv (.tmp 37), none⟩]))))))
    (.seq (.region [⟨some 4, .mv (.const (.int .i64 0)), none⟩, ⟨some 5, .mv (.const (.int .i64 0)), none⟩]) .ret)))))
theorem low102 : lowF Tryz.prog [2, 3] Tryz.f102 = some (64, lc102.strip, [.tmp 4, .tmp 5]) := by kernel_rfl
theorem fn102 : FnOk Tryz.prog 102 64 lc102 [.tmp 4, .tmp 5] := ⟨Tryz.call102, [2, 3], _, Tryz.func102, low102⟩
/-- (moonpool/dive.dive).plans -/
def lc103 : LCode :=
  (.seq (.region [⟨some 2, .box (.tmp 0), none⟩, ⟨some 3, .box (.tmp 1), none⟩, ⟨some 4, .mv (.const .nilFunc), none⟩]) (.seq (.region [⟨some 5, .mkfn 125 [(.tmp 3), (.tmp 2)],
    none⟩, ⟨some 4, .mv (.tmp 5), none⟩]) .ret))
theorem low103 : lowF Tryz.prog [] Tryz.f103 = some (6, lc103.strip, [.tmp 4]) := by kernel_rfl
theorem fn103 : FnOk Tryz.prog 103 6 lc103 [.tmp 4] := ⟨Tryz.call103, [], _, Tryz.func103, low103⟩
/-- (moonpool/dive.dive).home -/
def lc104 : LCode :=
  (.seq (.region [⟨some 1, .boxS (.tmp 0), none⟩, ⟨some 2, .alloc [(.int .i64 0), (.int .i64 0)], none⟩]) (.seq (.regionD [⟨some 4, .load true 13 (.tmp 1), none⟩, ⟨some 5, .fld 0
    (.tmp 1), none⟩, ⟨some 6, .fld 2 (.tmp 5), none⟩, ⟨some 7, .load false 1 (.tmp 6), none⟩, ⟨some 8, .fld 8 (.tmp 1), none⟩, ⟨some 9, .fld 0 (.tmp 8), none⟩, ⟨some 10, .load false
    1 (.tmp 9), none⟩, ⟨some 11, .idx 1 (.tmp 7) (.tmp 10), none⟩, ⟨some 12, .load false 1 (.tmp 11), none⟩, ⟨some 13, .fld 8 (.tmp 1), none⟩, ⟨some 14, .fld 1 (.tmp 13), none⟩,
    ⟨some 15, .load false 1 (.tmp 14), none⟩, ⟨some 16, .call (.func 122) [(.tmp 4), (.tmp 12), (.tmp 15)], none⟩, ⟨some 3, .mv (.tmp 16), none⟩] [0, 0, 2, 6, 0, 16, 48, 126, 254,
    0, 512, 1536, 4095, 8191] [0, 1, 2, 3, 4, 5, 6, 7, 8, 9, 10, 11, 12, 13]) (.seq (.region [⟨some 17, .mv (.tmp 3), none⟩, ⟨some 18, .mv (.tmp 3), none⟩, ⟨some 19, .fld 0 (.tmp
    1), none⟩, ⟨some 20, .fld 5 (.tmp 19), none⟩, ⟨some 21, .load false 1 (.tmp 20), none⟩, ⟨some 22, .bin .mul (.tmp 18) (.tmp 21), none⟩, ⟨some 23, .build [(.int .i64 0), (.int
    .i64 0)] [(0, 1, (.tmp 17)), (1, 1, (.tmp 22))], none⟩, ⟨none, .store 2 (.tmp 2) (.tmp 23), none⟩]) .ret)))
theorem low104 : lowF Tryz.prog [1] Tryz.f104 = some (24, lc104.strip, [.cell 2 true 2]) := by kernel_rfl
theorem fn104 : FnOk Tryz.prog 104 24 lc104 [.cell 2 true 2] := ⟨Tryz.call104, [1], _, Tryz.func104, low104⟩
/-- moonpool/dive.dependents$1 -/
def lc105 : LCode :=
  (.seq (.region [⟨some 4, .mv (.const (.bool false)), none⟩]) (.seq (.region [⟨some 5, .mv (.tmp 0), none⟩, ⟨some 6, .load false 1 (.tmp 1), none⟩, ⟨some 7, .bin .eql (.tmp 5)
    (.tmp 6), none⟩, ⟨some 8, .mv (.tmp 7), none⟩, ⟨some 9, .load false 1 (.tmp 2), some (8, false)⟩, ⟨some 10, .mv (.tmp 0), some (8, false)⟩, ⟨some 11, .idx 1 (.tmp 9) (.tmp 10),
    some (8, false)⟩, ⟨some 12, .load false 1 (.tmp 11), some (8, false)⟩, ⟨some 13, .pick (.tmp 8) (.const (.bool true)) (.tmp 12), none⟩, ⟨some 4, .mv (.tmp 13), none⟩]) .ret))
theorem low105 : lowF Tryz.prog [] Tryz.f105 = some (14, lc105.strip, [.tmp 4]) := by kernel_rfl
theorem fn105 : FnOk Tryz.prog 105 14 lc105 [.tmp 4] := ⟨Tryz.call105, [], _, Tryz.func105, low105⟩
/-- moonpool/dive.tasksErr -/
def lc106 : LCode :=
  (.seq (.region [⟨some 1, .boxS (.tmp 0), none⟩, ⟨some 2, .mv (.const (.int .i64 0)), none⟩, ⟨some 3, .mv (.const (.int .i64 0)), none⟩]) (.seq (.seq (.region [⟨some 4, .load false
    1 (.tmp 1), none⟩, ⟨some 5, .len (.tmp 4), none⟩, ⟨some 6, .bin .gtr (.tmp 5) (.const (.int .i64 6)), none⟩]) (.cond (.tmp 6) (.seq (.region [⟨some 2, .mv (.const (.int .i64
    0)), none⟩, ⟨some 3, .mv (.const (.int .i64 8)), none⟩]) .ret) .skip)) (.seq (.region [⟨some 7, .load false 1 (.tmp 1), none⟩, ⟨some 8, .mkfn 128 [(.tmp 1)], none⟩, ⟨some 9,
    .call (.func 109) [(.tmp 7), (.tmp 8)], none⟩, ⟨some 10, .ext (.tmp 9) 0, none⟩, ⟨some 11, .ext (.tmp 9) 1, none⟩, ⟨some 2, .mv (.tmp 10), none⟩, ⟨some 3, .mv (.tmp 11), none⟩])
    .ret)))
theorem low106 : lowF Tryz.prog [1] Tryz.f106 = some (12, lc106.strip, [.tmp 2, .tmp 3]) := by kernel_rfl
theorem fn106 : FnOk Tryz.prog 106 12 lc106 [.tmp 2, .tmp 3] := ⟨Tryz.call106, [1], _, Tryz.func106, low106⟩
/-- moonpool/dive.CheckSite$1 -/
def lc107 : LCode :=
  (.seq (.region [⟨some 6, .mv (.const (.int .i64 0)), none⟩]) (.seq (.region [⟨some 9, .fld 1 (.tmp 2), none⟩, ⟨some 10, .load false 1 (.tmp 9), none⟩, ⟨some 11, .mv (.tmp 0),
    none⟩, ⟨some 12, .idx 1 (.tmp 10) (.tmp 11), none⟩, ⟨some 13, .load false 1 (.tmp 12), none⟩, ⟨some 7, .mv (.tmp 13), none⟩]) (.seq (.region [⟨some 14, .mv (.tmp 7), none⟩,
    ⟨some 15, .call (.func 56) [(.tmp 14), (.func 108)], none⟩, ⟨some 8, .mv (.tmp 15), none⟩]) (.seq (.regionD [⟨some 16, .mv (.tmp 1), none⟩, ⟨some 17, .call (.func 84) [(.tmp
    16)], none⟩, ⟨some 18, .call (.func 55) [(.tmp 17), (.const (.int .i64 2))], none⟩, ⟨some 19, .mv (.tmp 7), none⟩, ⟨some 20, .len (.tmp 19), none⟩, ⟨some 21, .load false 1 (.tmp
    3), none⟩, ⟨some 22, .bin .eql (.tmp 20) (.tmp 21), none⟩, ⟨some 23, .call (.func 55) [(.tmp 22), (.const (.int .i64 10))], none⟩, ⟨some 24, .mv (.tmp 8), none⟩, ⟨some 25, .un
    .not (.tmp 24), none⟩, ⟨some 26, .mv (.tmp 25), none⟩, ⟨some 27, .mv (.tmp 7), some (26, true)⟩, ⟨some 28, .len (.tmp 27), some (26, true)⟩, ⟨some 29, .mv (.tmp 0), some (26,
    true)⟩, ⟨some 30, .bin .leq (.tmp 28) (.tmp 29), some (26, true)⟩, ⟨some 31, .mv (.tmp 30), some (26, true)⟩, ⟨some 32, .mv (.tmp 7), some (31, false)⟩, ⟨some 33, .mv (.tmp 0),
    some (31, false)⟩, ⟨some 34, .idx 1 (.tmp 32) (.tmp 33), some (31, false)⟩, ⟨some 35, .load false 1 (.tmp 34), some (31, false)⟩, ⟨some 36, .bin .eql (.tmp 35) (.const (.int
    .i64 0)), some (31, false)⟩, ⟨some 37, .pick (.tmp 31) (.const (.bool true)) (.tmp 36), some (26, true)⟩, ⟨some 38, .pick (.tmp 26) (.tmp 37) (.const (.bool false)), none⟩,
    ⟨some 39, .call (.func 55) [(.tmp 38), (.const (.int .i64 2))], none⟩, ⟨some 40, .lit false 33 1 [(.tmp 18), (.tmp 23), (.tmp 39)], none⟩, ⟨some 41, .call (.func 54) [(.tmp
    40)], none⟩, ⟨some 6, .mv (.tmp 41), none⟩] [0, 1, 3, 0, 8, 0, 56, 127, 0, 256, 1023, 2047, 4095, 2047, 16383, 32767, 65535, 65535, 262143, 524287, 1048575, 2097151, 4194303,
    8388607, 16777215, 33554431, 67108863] [0, 1, 2, 3, 4, 5, 6, 7, 8, 9, 10, 11, 12, 13, 14, 15, 16, 17, 18, 19, 20, 21, 22, 23, 24, 25, 26]) .ret))))
theorem low107 : lowF Tryz.prog [] Tryz.f107 = some (42, lc107.strip, [.tmp 6]) := by kernel_rfl
theorem fn107 : FnOk Tryz.prog 107 42 lc107 [.tmp 6] := ⟨Tryz.call107, [], _, Tryz.func107, low107⟩
/-- moonpool/dive.CheckSite$1$1 -/
def lc108 : LCode :=
  (.seq (.region [⟨some 2, .mv (.const (.bool false)), none⟩]) (.seq (.region [⟨some 3, .mv (.tmp 0), none⟩, ⟨some 4, .call (.func 84) [(.tmp 3)], none⟩, ⟨some 5, .un .not (.tmp 4),
    none⟩, ⟨some 2, .mv (.tmp 5), none⟩]) .ret))
theorem low108 : lowF Tryz.prog [] Tryz.f108 = some (6, lc108.strip, [.tmp 2]) := by kernel_rfl
theorem fn108 : FnOk Tryz.prog 108 6 lc108 [.tmp 2] := ⟨Tryz.call108, [], _, Tryz.func108, low108⟩
/-- moonpool/dive.each[moonpool/api.DiveTask] -/
def lc109 : LCode :=
  (.seq (.region [⟨some 4, .mv (.const (.int .i64 0)), none⟩, ⟨some 5, .mv (.const (.int .i64 0)), none⟩]) (.seq (.seq (.region [⟨some 9, .mv (.tmp 0), none⟩, ⟨some 10, .len (.tmp
    9), none⟩, ⟨some 11, .mv (.const (.int .i64 0)), none⟩]) (.block 0 (.loop (.seq (.region [⟨some 12, .bin .lss (.tmp 11) (.tmp 10), none⟩]) (.seq (.cond (.tmp 12) .skip (.exit
    0)) (.seq (.block 1 (.seq (.region [⟨some 13, .mv (.tmp 11), none⟩, ⟨some 14, .idx 9 (.tmp 9) (.tmp 11), none⟩, ⟨some 15, .load true 9 (.tmp 14), none⟩, ⟨some 7, .alloc
    [(.string ⟨#[]⟩), (.int .i64 0), (.int .i64 0), (.int .i64 0), (.int .i64 0), (.int .i64 0), (.int .i64 0), (.int .i64 0), (.slice none 0 0)], none⟩, ⟨some 6, .mv (.tmp 13),
    none⟩, ⟨none, .store 9 (.tmp 7) (.tmp 15), none⟩]) (.seq (.region [⟨some 16, .mv (.tmp 1), none⟩, ⟨some 17, .mv (.tmp 6), none⟩, ⟨some 18, .load true 9 (.tmp 7), none⟩, ⟨some
    19, .call (.tmp 16) [(.tmp 17), (.tmp 18)], none⟩, ⟨some 8, .mv (.tmp 19), none⟩]) (.seq (.region [⟨some 20, .mv (.tmp 8), none⟩, ⟨some 21, .bin .neq (.tmp 20) (.const (.int
    .i64 0)), none⟩]) (.cond (.tmp 21) (.seq (.region [⟨some 22, .mv (.tmp 6), none⟩, ⟨some 23, .mv (.tmp 8), none⟩, ⟨some 4, .mv (.tmp 22), none⟩, ⟨some 5, .mv (.tmp 23), none⟩])
    .ret) .skip))))) (.region [⟨some 24, .bin .add (.tmp 11) (.const (.int .i64 1)), none⟩, ⟨some 11, .mv (.tmp 24), none⟩]))))))) (.seq (.region [⟨some 4, .mv (.const (.int .i64
    0)), none⟩, ⟨some 5, .mv (.const (.int .i64 0)), none⟩]) .ret)))
theorem low109 : lowF Tryz.prog [] Tryz.f109 = some (25, lc109.strip, [.tmp 4, .tmp 5]) := by kernel_rfl
theorem fn109 : FnOk Tryz.prog 109 25 lc109 [.tmp 4, .tmp 5] := ⟨Tryz.call109, [], _, Tryz.func109, low109⟩
/-- moonpool/dive.CheckSite$2 -/
def lc110 : LCode :=
  (.seq (.region [⟨some 4, .boxS (.tmp 1), none⟩, ⟨some 5, .mv (.const (.int .i64 0)), none⟩]) (.seq (.region [⟨some 6, .fld 1 (.tmp 4), none⟩, ⟨some 7, .load false 1 (.tmp 6),
    none⟩, ⟨some 8, .load false 1 (.tmp 2), none⟩, ⟨some 9, .bin .lss (.tmp 7) (.tmp 8), none⟩, ⟨some 10, .call (.func 55) [(.tmp 9), (.const (.int .i64 6))], none⟩, ⟨some 5, .mv
    (.tmp 10), none⟩]) .ret))
theorem low110 : lowF Tryz.prog [4] Tryz.f110 = some (11, lc110.strip, [.tmp 5]) := by kernel_rfl
theorem fn110 : FnOk Tryz.prog 110 11 lc110 [.tmp 5] := ⟨Tryz.call110, [4], _, Tryz.func110, low110⟩
/-- moonpool/dive.each[moonpool/api.DiveTide] -/
def lc111 : LCode :=
  (.seq (.region [⟨some 4, .mv (.const (.int .i64 0)), none⟩, ⟨some 5, .mv (.const (.int .i64 0)), none⟩]) (.seq (.seq (.region [⟨some 9, .mv (.tmp 0), none⟩, ⟨some 10, .len (.tmp
    9), none⟩, ⟨some 11, .mv (.const (.int .i64 0)), none⟩]) (.block 0 (.loop (.seq (.region [⟨some 12, .bin .lss (.tmp 11) (.tmp 10), none⟩]) (.seq (.cond (.tmp 12) .skip (.exit
    0)) (.seq (.block 1 (.seq (.region [⟨some 13, .mv (.tmp 11), none⟩, ⟨some 14, .idx 3 (.tmp 9) (.tmp 11), none⟩, ⟨some 15, .load true 3 (.tmp 14), none⟩, ⟨some 7, .alloc [(.int
    .i64 0), (.int .i64 0), (.int .i64 0)], none⟩, ⟨some 6, .mv (.tmp 13), none⟩, ⟨none, .store 3 (.tmp 7) (.tmp 15), none⟩]) (.seq (.region [⟨some 16, .mv (.tmp 1), none⟩, ⟨some
    17, .mv (.tmp 6), none⟩, ⟨some 18, .load true 3 (.tmp 7), none⟩, ⟨some 19, .call (.tmp 16) [(.tmp 17), (.tmp 18)], none⟩, ⟨some 8, .mv (.tmp 19), none⟩]) (.seq (.region [⟨some
    20, .mv (.tmp 8), none⟩, ⟨some 21, .bin .neq (.tmp 20) (.const (.int .i64 0)), none⟩]) (.cond (.tmp 21) (.seq (.region [⟨some 22, .mv (.tmp 6), none⟩, ⟨some 23, .mv (.tmp 8),
    none⟩, ⟨some 4, .mv (.tmp 22), none⟩, ⟨some 5, .mv (.tmp 23), none⟩]) .ret) .skip))))) (.region [⟨some 24, .bin .add (.tmp 11) (.const (.int .i64 1)), none⟩, ⟨some 11, .mv (.tmp
    24), none⟩]))))))) (.seq (.region [⟨some 4, .mv (.const (.int .i64 0)), none⟩, ⟨some 5, .mv (.const (.int .i64 0)), none⟩]) .ret)))
theorem low111 : lowF Tryz.prog [] Tryz.f111 = some (25, lc111.strip, [.tmp 4, .tmp 5]) := by kernel_rfl
theorem fn111 : FnOk Tryz.prog 111 25 lc111 [.tmp 4, .tmp 5] := ⟨Tryz.call111, [], _, Tryz.func111, low111⟩
/-- moonpool/dive.CheckSite$3 -/
def lc112 : LCode :=
  (.seq (.region [⟨some 4, .boxS (.tmp 1), none⟩, ⟨some 5, .mv (.const (.int .i64 0)), none⟩]) (.seq (.region [⟨some 8, .fld 0 (.tmp 4), none⟩, ⟨some 9, .load true 2 (.tmp 8),
    none⟩, ⟨some 6, .alloc [(.int .i64 0), (.int .i64 0)], none⟩, ⟨none, .store 2 (.tmp 6) (.tmp 9), none⟩]) (.seq (.regionD [⟨some 10, .fld 0 (.tmp 6), none⟩, ⟨some 11, .load false
    1 (.tmp 10), none⟩, ⟨some 12, .call (.func 113) [(.tmp 11)], none⟩, ⟨some 13, .mv (.tmp 12), none⟩, ⟨some 14, .fld 1 (.tmp 6), some (13, true)⟩, ⟨some 15, .load false 1 (.tmp
    14), some (13, true)⟩, ⟨some 16, .call (.func 113) [(.tmp 15)], some (13, true)⟩, ⟨some 17, .pick (.tmp 13) (.tmp 16) (.const (.bool false)), none⟩, ⟨some 18, .mv (.tmp 17),
    none⟩, ⟨some 19, .fld 2 (.tmp 4), some (18, true)⟩, ⟨some 20, .load false 1 (.tmp 19), some (18, true)⟩, ⟨some 21, .call (.func 84) [(.tmp 20)], some (18, true)⟩, ⟨some 22,
    .pick (.tmp 18) (.tmp 21) (.const (.bool false)), none⟩, ⟨some 23, .call (.func 55) [(.tmp 22), (.const (.int .i64 2))], none⟩, ⟨some 24, .fld 0 (.tmp 6), none⟩, ⟨some 25, .load
    false 1 (.tmp 24), none⟩, ⟨some 26, .fld 1 (.tmp 6), none⟩, ⟨some 27, .load false 1 (.tmp 26), none⟩, ⟨some 28, .bin .leq (.tmp 25) (.tmp 27), none⟩, ⟨some 29, .mv (.tmp 28),
    none⟩, ⟨some 30, .fld 0 (.tmp 6), some (29, true)⟩, ⟨some 31, .load false 1 (.tmp 30), some (29, true)⟩, ⟨some 32, .load false 1 (.tmp 2), some (29, true)⟩, ⟨some 33, .bin .gtr
    (.tmp 31) (.tmp 32), some (29, true)⟩, ⟨some 34, .pick (.tmp 29) (.tmp 33) (.const (.bool false)), none⟩, ⟨some 35, .call (.func 55) [(.tmp 34), (.const (.int .i64 9))], none⟩,
    ⟨some 36, .lit false 33 1 [(.tmp 23), (.tmp 35)], none⟩, ⟨some 37, .call (.func 54) [(.tmp 36)], none⟩, ⟨some 7, .mv (.tmp 37), none⟩] [0, 1, 3, 7, 15, 31, 63, 127, 255, 511,
    1023, 2047, 4095, 8191, 0, 16384, 0, 65536, 245760, 524287, 1048575, 2097151, 1048575, 8388607, 16777215, 33554431, 67108863, 134217727, 268435455] [0, 1, 2, 3, 4, 5, 6, 7, 8,
    9, 10, 11, 12, 13, 14, 15, 16, 17, 18, 19, 20, 21, 22, 23, 24, 25, 26, 27, 28]) (.seq (.region [⟨some 38, .fld 1 (.tmp 6), none⟩, ⟨some 39, .load false 1 (.tmp 38), none⟩,
    ⟨none, .store 1 (.tmp 2) (.tmp 39), none⟩]) (.seq (.region [⟨some 40, .mv (.tmp 7), none⟩, ⟨some 5, .mv (.tmp 40), none⟩]) .ret)))))
theorem low112 : lowF Tryz.prog [4] Tryz.f112 = some (41, lc112.strip, [.tmp 5]) := by kernel_rfl
theorem fn112 : FnOk Tryz.prog 112 41 lc112 [.tmp 5] := ⟨Tryz.call112, [4], _, Tryz.func112, low112⟩
/-- moonpool/dive.isTick -/
def lc113 : LCode :=
  (.seq (.region [⟨some 2, .mv (.const (.bool false)), none⟩]) (.seq (.region [⟨some 3, .mv (.tmp 0), none⟩, ⟨some 4, .call (.func 69) [(.tmp 3), (.const (.int .i64 0)), (.const
    (.int .i64 100000))], none⟩, ⟨some 2, .mv (.tmp 4), none⟩]) .ret))
theorem low113 : lowF Tryz.prog [] Tryz.f113 = some (5, lc113.strip, [.tmp 2]) := by kernel_rfl
theorem fn113 : FnOk Tryz.prog 113 5 lc113 [.tmp 2] := ⟨Tryz.call113, [], _, Tryz.func113, low113⟩
/-- moonpool/moonpoolref08.TasksErr -/
def lc114 : LCode :=
  (.seq (.region [⟨some 2, .mv (.const (.int .i64 0)), none⟩, ⟨some 3, .mv (.const (.int .i64 0)), none⟩]) (.seq (.seq (.region [⟨some 8, .mv (.tmp 0), none⟩, ⟨some 9, .len (.tmp
    8), none⟩, ⟨some 10, .bin .gtr (.tmp 9) (.const (.int .i64 6)), none⟩]) (.cond (.tmp 10) (.seq (.region [⟨some 2, .mv (.const (.int .i64 0)), none⟩, ⟨some 3, .mv (.const (.int
    .i64 8)), none⟩]) .ret) .skip)) (.seq (.seq (.region [⟨some 4, .mv (.const (.int .i64 0)), none⟩]) (.block 0 (.loop (.seq (.seq (.region [⟨some 11, .mv (.tmp 4), none⟩, ⟨some
    12, .mv (.tmp 0), none⟩, ⟨some 13, .len (.tmp 12), none⟩, ⟨some 14, .bin .lss (.tmp 11) (.tmp 13), none⟩]) (.cond (.tmp 14) .skip (.exit 0))) (.seq (.block 1 (.seq (.region
    [⟨some 17, .mv (.tmp 0), none⟩, ⟨some 18, .mv (.tmp 4), none⟩, ⟨some 19, .idx 9 (.tmp 17) (.tmp 18), none⟩, ⟨some 20, .load true 9 (.tmp 19), none⟩, ⟨some 5, .alloc [(.string
    ⟨#[]⟩), (.int .i64 0), (.int .i64 0), (.int .i64 0), (.int .i64 0), (.int .i64 0), (.int .i64 0), (.int .i64 0), (.slice none 0 0)], none⟩, ⟨none, .store 9 (.tmp 5) (.tmp 20),
    none⟩]) (.seq (.seq (.region [⟨some 21, .fld 0 (.tmp 5), none⟩, ⟨some 22, .load false 1 (.tmp 21), none⟩, ⟨some 23, .call (.func 135) [(.tmp 22)], none⟩, ⟨some 24, .un .not
    (.tmp 23), none⟩]) (.cond (.tmp 24) (.seq (.region [⟨some 25, .mv (.tmp 4), none⟩, ⟨some 2, .mv (.tmp 25), none⟩, ⟨some 3, .mv (.const (.int .i64 4)), none⟩]) .ret) .skip))
    (.seq (.seq (.region [⟨some 6, .mv (.const (.int .i64 0)), none⟩]) (.block 2 (.loop (.seq (.seq (.region [⟨some 26, .mv (.tmp 6), none⟩, ⟨some 27, .mv (.tmp 4), none⟩, ⟨some 28,
    .bin .lss (.tmp 26) (.tmp 27), none⟩]) (.cond (.tmp 28) .skip (.exit 2))) (.seq (.block 3 (.seq (.regionD [⟨some 31, .mv (.tmp 0), none⟩, ⟨some 32, .mv (.tmp 6), none⟩, ⟨some
    33, .idx 9 (.tmp 31) (.tmp 32), none⟩, ⟨some 34, .fld 0 (.tmp 33), none⟩, ⟨some 35, .load false 1 (.tmp 34), none⟩, ⟨some 36, .fld 0 (.tmp 5), none⟩, ⟨some 37, .load false 1
    (.tmp 36), none⟩, ⟨some 38, .eqS false (.tmp 35) (.tmp 37), none⟩] [0, 0, 3, 7, 15, 0, 32, 127] [0, 1, 2, 3, 4, 5, 6, 7]) (.cond (.tmp 38) (.seq (.region [⟨some 39, .mv (.tmp
    4), none⟩, ⟨some 2, .mv (.tmp 39), none⟩, ⟨some 3, .mv (.const (.int .i64 5)), none⟩]) .ret) .skip))) (.region [⟨some 29, .mv (.tmp 6), none⟩, ⟨some 30, .bin .add (.tmp 29)
    (.const (.int .i64 1)), none⟩, ⟨some 6, .mv (.tmp 30), none⟩])))))) (.seq (.seq (.region [⟨some 40, .fld 1 (.tmp 5), none⟩, ⟨some 41, .load false 1 (.tmp 40), none⟩, ⟨some 42,
    .call (.func 75) [(.tmp 41), (.const (.int .i64 0)), (.const (.int .i64 4))], none⟩, ⟨some 43, .un .not (.tmp 42), none⟩, ⟨some 44, .mv (.tmp 43), none⟩, ⟨some 45, .fld 2 (.tmp
    5), some (44, false)⟩, ⟨some 46, .load false 1 (.tmp 45), some (44, false)⟩, ⟨some 47, .call (.func 115) [(.tmp 46)], some (44, false)⟩, ⟨some 48, .un .not (.tmp 47), some (44,
    false)⟩, ⟨some 49, .pick (.tmp 44) (.const (.bool true)) (.tmp 48), none⟩, ⟨some 50, .mv (.tmp 49), none⟩, ⟨some 51, .fld 3 (.tmp 5), some (50, false)⟩, ⟨some 52, .load false 1
    (.tmp 51), some (50, false)⟩, ⟨some 53, .call (.func 115) [(.tmp 52)], some (50, false)⟩, ⟨some 54, .un .not (.tmp 53), some (50, false)⟩, ⟨some 55, .pick (.tmp 50) (.const
    (.bool true)) (.tmp 54), none⟩, ⟨some 56, .mv (.tmp 55), none⟩, ⟨some 57, .fld 4 (.tmp 5), some (56, false)⟩, ⟨some 58, .load false 1 (.tmp 57), some (56, false)⟩, ⟨some 59,
    .call (.func 115) [(.tmp 58)], some (56, false)⟩, ⟨some 60, .un .not (.tmp 59), some (56, false)⟩, ⟨some 61, .pick (.tmp 56) (.const (.bool true)) (.tmp 60), none⟩, ⟨some 62,
    .mv (.tmp 61), none⟩, ⟨some 63, .fld 5 (.tmp 5), some (62, false)⟩, ⟨some 64, .load false 1 (.tmp 63), some (62, false)⟩, ⟨some 65, .call (.func 115) [(.tmp 64)], some (62,
    false)⟩, ⟨some 66, .un .not (.tmp 65), some (62, false)⟩, ⟨some 67, .pick (.tmp 62) (.const (.bool true)) (.tmp 66), none⟩, ⟨some 68, .mv (.tmp 67), none⟩, ⟨some 69, .fld 6
    (.tmp 5), some (68, false)⟩, ⟨some 70, .fld 0 (.tmp 69), some (68, false)⟩, ⟨some 71, .load false 1 (.tmp 70), some (68, false)⟩, ⟨some 72, .call (.func 116) [(.tmp 71)], some
    (68, false)⟩, ⟨some 73, .un .not (.tmp 72), some (68, false)⟩, ⟨some 74, .pick (.tmp 68) (.const (.bool true)) (.tmp 73), none⟩, ⟨some 75, .mv (.tmp 74), none⟩, ⟨some 76, .fld 6
    (.tmp 5), some (75, false)⟩, ⟨some 77, .fld 1 (.tmp 76), some (75, false)⟩, ⟨some 78, .load false 1 (.tmp 77), some (75, false)⟩, ⟨some 79, .call (.func 116) [(.tmp 78)], some
    (75, false)⟩, ⟨some 80, .un .not (.tmp 79), some (75, false)⟩, ⟨some 81, .pick (.tmp 75) (.const (.bool true)) (.tmp 80), none⟩]) (.cond (.tmp 81) (.seq (.region [⟨some 82, .mv
    (.tmp 4), none⟩, ⟨some 2, .mv (.tmp 82), none⟩, ⟨some 3, .mv (.const (.int .i64 2)), none⟩]) .ret) .skip)) (.seq (.seq (.region [⟨some 83, .fld 6 (.tmp 5), none⟩, ⟨some 84, .fld
    0 (.tmp 83), none⟩, ⟨some 85, .load false 1 (.tmp 84), none⟩, ⟨some 86, .fld 6 (.tmp 5), none⟩, ⟨some 87, .fld 1 (.tmp 86), none⟩, ⟨some 88, .load false 1 (.tmp 87), none⟩,
    ⟨some 89, .bin .gtr (.tmp 85) (.tmp 88), none⟩]) (.cond (.tmp 89) (.seq (.region [⟨some 90, .mv (.tmp 4), none⟩, ⟨some 2, .mv (.tmp 90), none⟩, ⟨some 3, .mv (.const (.int .i64
    9)), none⟩]) .ret) .skip)) (.seq (.region [⟨some 7, .mv (.const (.int .i64 0)), none⟩]) (.block 4 (.loop (.seq (.seq (.region [⟨some 91, .mv (.tmp 7), none⟩, ⟨some 92, .fld 8
    (.tmp 5), none⟩, ⟨some 93, .load false 1 (.tmp 92), none⟩, ⟨some 94, .len (.tmp 93), none⟩, ⟨some 95, .bin .lss (.tmp 91) (.tmp 94), none⟩]) (.cond (.tmp 95) .skip (.exit 4)))
    (.seq (.block 5 (.seq (.seq (.region [⟨some 98, .fld 8 (.tmp 5), none⟩, ⟨some 99, .load false 1 (.tmp 98), none⟩, ⟨some 100, .mv (.tmp 7), none⟩, ⟨some 101, .idx 1 (.tmp 99)
    (.tmp 100), none⟩, ⟨some 102, .load false 1 (.tmp 101), none⟩, ⟨some 103, .mv (.tmp 4), none⟩, ⟨some 104, .bin .sub (.tmp 103) (.const (.int .i64 1)), none⟩, ⟨some 105, .call
    (.func 75) [(.tmp 102), (.const (.int .i64 0)), (.tmp 104)], none⟩, ⟨some 106, .un .not (.tmp 105), none⟩]) (.cond (.tmp 106) (.seq (.region [⟨some 107, .mv (.tmp 4), none⟩,
    ⟨some 2, .mv (.tmp 107), none⟩, ⟨some 3, .mv (.const (.int .i64 6)), none⟩]) .ret) .skip)) (.seq (.regionD [⟨some 108, .mv (.tmp 7), none⟩, ⟨some 109, .bin .gtr (.tmp 108)
    (.const (.int .i64 0)), none⟩, ⟨some 110, .mv (.tmp 109), none⟩, ⟨some 111, .fld 8 (.tmp 5), some (110, true)⟩, ⟨some 112, .load false 1 (.tmp 111), some (110, true)⟩, ⟨some
    113, .mv (.tmp 7), some (110, true)⟩, ⟨some 114, .idx 1 (.tmp 112) (.tmp 113), some (110, true)⟩, ⟨some 115, .load false 1 (.tmp 114), some (110, true)⟩, ⟨some 116, .fld 8 (.tmp
    5), some (110, true)⟩, ⟨some 117, .load false 1 (.tmp 116), some (110, true)⟩, ⟨some 118, .mv (.tmp 7), some (110, true)⟩, ⟨some 119, .bin .sub (.tmp 118) (.const (.int .i64
    1)), some (110, true)⟩, ⟨some 120, .idx 1 (.tmp 117) (.tmp 119), some (110, true)⟩, ⟨some 121, .load false 1 (.tmp 120), some (110, true)⟩, ⟨some 122, .bin .leq (.tmp 115) (.tmp
    121), some (110, true)⟩, ⟨some 123, .pick (.tmp 110) (.tmp 122) (.const (.bool false)), none⟩] [0, 1, 3, 7, 15, 7, 63, 127, 7, 263, 7, 1031, 3847, 7943, 16383, 32767] [0, 1, 2,
    3, 4, 5, 6, 7, 8, 9, 10, 11, 12, 13, 14, 15]) (.cond (.tmp 123) (.seq (.region [⟨some 124, .mv (.tmp 4), none⟩, ⟨some 2, .mv (.tmp 124), none⟩, ⟨some 3, .mv (.const (.int .i64
    9)), none⟩]) .ret) .skip)))) (.region [⟨some 96, .mv (.tmp 7), none⟩, ⟨some 97, .bin .add (.tmp 96) (.const (.int .i64 1)), none⟩, ⟨some 7, .mv (.tmp 97), none⟩]))))))))))))
    (.region [⟨some 15, .mv (.tmp 4), none⟩, ⟨some 16, .bin .add (.tmp 15) (.const (.int .i64 1)), none⟩, ⟨some 4, .mv (.tmp 16), none⟩])))))) (.seq (.region [⟨some 2, .mv (.const
    (.int .i64 0)), none⟩, ⟨some 3, .mv (.const (.int .i64 0)), none⟩]) .ret))))
theorem low114 : lowF Tryz.prog [] Tryz.f114 = some (125, lc114.strip, [.tmp 2, .tmp 3]) := by kernel_rfl
theorem fn114 : FnOk Tryz.prog 114 125 lc114 [.tmp 2, .tmp 3] := ⟨Tryz.call114, [], _, Tryz.func114, low114⟩
/-- moonpool/moonpoolref08.isNumber -/
def lc115 : LCode :=
  (.seq (.region [⟨some 2, .mv (.const (.bool false)), none⟩]) (.seq (.region [⟨some 3, .mv (.tmp 0), none⟩, ⟨some 4, .call (.func 75) [(.tmp 3), (.const (.int .i64 0)), (.const
    (.int .i64 10000))], none⟩, ⟨some 2, .mv (.tmp 4), none⟩]) .ret))
theorem low115 : lowF Tryz.prog [] Tryz.f115 = some (5, lc115.strip, [.tmp 2]) := by kernel_rfl
theorem fn115 : FnOk Tryz.prog 115 5 lc115 [.tmp 2] := ⟨Tryz.call115, [], _, Tryz.func115, low115⟩
/-- moonpool/moonpoolref08.isTick -/
def lc116 : LCode :=
  (.seq (.region [⟨some 2, .mv (.const (.bool false)), none⟩]) (.seq (.region [⟨some 3, .mv (.tmp 0), none⟩, ⟨some 4, .call (.func 75) [(.tmp 3), (.const (.int .i64 0)), (.const
    (.int .i64 100000))], none⟩, ⟨some 2, .mv (.tmp 4), none⟩]) .ret))
theorem low116 : lowF Tryz.prog [] Tryz.f116 = some (5, lc116.strip, [.tmp 2]) := by kernel_rfl
theorem fn116 : FnOk Tryz.prog 116 5 lc116 [.tmp 2] := ⟨Tryz.call116, [], _, Tryz.func116, low116⟩
/-- (moonpool/dive.dive).stepped$1 -/
def lc117 : LCode :=
  (.seq (.region [⟨some 3, .mv (.const (.bool false)), none⟩]) (.seq (.region [⟨some 4, .load true 13 (.tmp 1), none⟩, ⟨some 5, .mv (.tmp 0), none⟩, ⟨some 6, .call (.func 57) [(.tmp
    4), (.tmp 5)], none⟩, ⟨some 7, .un .not (.tmp 6), none⟩, ⟨some 3, .mv (.tmp 7), none⟩]) .ret))
theorem low117 : lowF Tryz.prog [] Tryz.f117 = some (8, lc117.strip, [.tmp 3]) := by kernel_rfl
theorem fn117 : FnOk Tryz.prog 117 8 lc117 [.tmp 3] := ⟨Tryz.call117, [], _, Tryz.func117, low117⟩
/-- moonpool/moonpoolbase.Size -/
def lc118 : LCode :=
  (.seq (.region [⟨some 2, .mv (.const (.int .i64 0)), none⟩]) (.seq (.region [⟨some 3, .mv (.tmp 0), none⟩, ⟨some 4, .mv (.tmp 0), none⟩, ⟨some 5, .un .neg (.tmp 4), none⟩, ⟨some
    6, .mm true [(.tmp 3), (.tmp 5)], none⟩, ⟨some 2, .mv (.tmp 6), none⟩]) .ret))
theorem low118 : lowF Tryz.prog [] Tryz.f118 = some (7, lc118.strip, [.tmp 2]) := by kernel_rfl
theorem fn118 : FnOk Tryz.prog 118 7 lc118 [.tmp 2] := ⟨Tryz.call118, [], _, Tryz.func118, low118⟩
/-- moonpool/dive.ascendingAt -/
def lc119 : LCode :=
  (.seq (.region [⟨some 3, .box (.tmp 1), none⟩, ⟨some 4, .mv (.const (.int .i64 0)), none⟩, ⟨some 5, .mv (.const (.int .i64 0)), none⟩]) (.seq (.region [⟨some 6, .alloc [(.int .i64
    0)], none⟩, ⟨none, .store 1 (.tmp 6) (.const (.int .i64 (-1))), none⟩]) (.seq (.region [⟨some 7, .mv (.tmp 0), none⟩, ⟨some 8, .mkfn 136 [(.tmp 3), (.tmp 6)], none⟩, ⟨some 9,
    .call (.func 94) [(.tmp 7), (.tmp 8)], none⟩, ⟨some 10, .ext (.tmp 9) 0, none⟩, ⟨some 11, .ext (.tmp 9) 1, none⟩, ⟨some 4, .mv (.tmp 10), none⟩, ⟨some 5, .mv (.tmp 11), none⟩])
    .ret)))
theorem low119 : lowF Tryz.prog [] Tryz.f119 = some (12, lc119.strip, [.tmp 4, .tmp 5]) := by kernel_rfl
theorem fn119 : FnOk Tryz.prog 119 12 lc119 [.tmp 4, .tmp 5] := ⟨Tryz.call119, [], _, Tryz.func119, low119⟩
/-- slices.Index[[]int,int] -/
def lc120 : LCode :=
  (.seq (.region [⟨some 4, .mv (.const (.int .i64 0)), none⟩]) (.seq (.seq (.region [⟨some 6, .mv (.tmp 0), none⟩, ⟨some 7, .len (.tmp 6), none⟩, ⟨some 8, .mv (.const (.int .i64
    0)), none⟩]) (.block 0 (.loop (.seq (.region [⟨some 9, .bin .lss (.tmp 8) (.tmp 7), none⟩]) (.seq (.cond (.tmp 9) .skip (.exit 0)) (.seq (.block 1 (.seq (.region [⟨some 10, .mv
    (.tmp 8), none⟩, ⟨some 5, .mv (.tmp 10), none⟩]) (.seq (.region [⟨some 11, .mv (.tmp 1), none⟩, ⟨some 12, .mv (.tmp 0), none⟩, ⟨some 13, .mv (.tmp 5), none⟩, ⟨some 14, .idx 1
    (.tmp 12) (.tmp 13), none⟩, ⟨some 15, .load false 1 (.tmp 14), none⟩, ⟨some 16, .bin .eql (.tmp 11) (.tmp 15), none⟩]) (.cond (.tmp 16) (.seq (.region [⟨some 17, .mv (.tmp 5),
    none⟩, ⟨some 4, .mv (.tmp 17), none⟩]) .ret) .skip)))) (.region [⟨some 18, .bin .add (.tmp 8) (.const (.int .i64 1)), none⟩, ⟨some 8, .mv (.tmp 18), none⟩]))))))) (.seq (.region
    [⟨some 4, .mv (.const (.int .i64 (-1))), none⟩]) .ret)))
theorem low120 : lowF Tryz.prog [] Tryz.f120 = some (19, lc120.strip, [.tmp 4]) := by kernel_rfl
theorem fn120 : FnOk Tryz.prog 120 19 lc120 [.tmp 4] := ⟨Tryz.call120, [], _, Tryz.func120, low120⟩
end Go.Pw

set_option linter.unusedVariables false
set_option maxHeartbeats 2000000
set_option maxRecDepth 100000
namespace Go.Pw
open Go Go.Proofs
/-- slices.Grow[[]int,int] -/
def lc121 : LCode :=
  (.seq (.region [⟨some 4, .mv (.const (.slice none 0 0)), none⟩]) (.seq (.seq (.region [⟨some 5, .mv (.tmp 1), none⟩, ⟨some 6, .bin .lss (.tmp 5) (.const (.int .i64 0)), none⟩])
    (.cond (.tmp 6) (.region [⟨some 7, .bad, none⟩, ⟨none, .bad, none⟩]) .skip)) (.seq (.seq (.region [⟨some 8, .mv (.tmp 1), none⟩, ⟨some 9, .mv (.tmp 0), none⟩, ⟨some 10, .cap
    (.tmp 9), none⟩, ⟨some 11, .mv (.tmp 0), none⟩, ⟨some 12, .len (.tmp 11), none⟩, ⟨some 13, .bin .sub (.tmp 10) (.tmp 12), none⟩, ⟨some 14, .bin .sub (.tmp 8) (.tmp 13), none⟩,
    ⟨some 1, .mv (.tmp 14), none⟩]) (.seq (.region [⟨some 15, .mv (.tmp 1), none⟩, ⟨some 16, .bin .gtr (.tmp 15) (.const (.int .i64 0)), none⟩]) (.cond (.tmp 16) (.region [⟨some 17,
    .mv (.tmp 0), none⟩, ⟨some 18, .mv (.tmp 0), none⟩, ⟨some 19, .cap (.tmp 18), none⟩, ⟨some 20, .slc 1 (.tmp 17) none (some (.tmp 19)), none⟩, ⟨some 21, .mv (.tmp 1), none⟩,
    ⟨some 22, .appendN 3 1 8 [(.int .i64 0)] (.tmp 20) (.tmp 21), none⟩, ⟨some 23, .mv (.tmp 0), none⟩, ⟨some 24, .len (.tmp 23), none⟩, ⟨some 25, .slc 1 (.tmp 22) none (some (.tmp
    24)), none⟩, ⟨some 0, .mv (.tmp 25), none⟩]) .skip))) (.seq (.region [⟨some 26, .mv (.tmp 0), none⟩, ⟨some 4, .mv (.tmp 26), none⟩]) .ret))))
theorem low121 : lowF Tryz.prog [] Tryz.f121 = some (27, lc121.strip, [.tmp 4]) := by kernel_rfl
theorem fn121 : FnOk Tryz.prog 121 27 lc121 [.tmp 4] := ⟨Tryz.call121, [], _, Tryz.func121, low121⟩
/-- (moonpool/dive.dive).swim -/
def lc122 : LCode :=
  (.seq (.region [⟨some 3, .boxS (.tmp 0), none⟩, ⟨some 6, .mv (.const (.int .i64 0)), none⟩]) (.seq (.seq (.region [⟨some 9, .mv (.tmp 1), none⟩, ⟨some 10, .bin .eql (.tmp 9)
    (.const (.int .i64 0)), none⟩]) (.cond (.tmp 10) (.seq (.region [⟨some 6, .mv (.const (.int .i64 0)), none⟩]) .ret) .skip)) (.seq (.seq (.region [⟨some 11, .fld 0 (.tmp 3),
    none⟩, ⟨some 12, .fld 3 (.tmp 11), none⟩, ⟨some 13, .load false 1 (.tmp 12), none⟩, ⟨some 14, .len (.tmp 13), none⟩, ⟨some 15, .mv (.const (.int .i64 0)), none⟩]) (.block 0
    (.loop (.seq (.region [⟨some 16, .bin .lss (.tmp 15) (.tmp 14), none⟩]) (.seq (.cond (.tmp 16) .skip (.exit 0)) (.seq (.block 1 (.seq (.region [⟨some 17, .idx 3 (.tmp 13) (.tmp
    15), none⟩, ⟨some 18, .load true 3 (.tmp 17), none⟩, ⟨some 8, .alloc [(.int .i64 0), (.int .i64 0), (.int .i64 0)], none⟩, ⟨none, .store 3 (.tmp 8) (.tmp 18), none⟩]) (.seq
    (.region [⟨some 19, .mv (.tmp 2), none⟩, ⟨some 20, .fld 0 (.tmp 8), none⟩, ⟨some 21, .fld 0 (.tmp 20), none⟩, ⟨some 22, .load false 1 (.tmp 21), none⟩, ⟨some 23, .fld 0 (.tmp
    8), none⟩, ⟨some 24, .fld 1 (.tmp 23), none⟩, ⟨some 25, .load false 1 (.tmp 24), none⟩, ⟨some 26, .call (.func 69) [(.tmp 19), (.tmp 22), (.tmp 25)], none⟩]) (.cond (.tmp 26)
    (.seq (.region [⟨some 27, .mv (.tmp 1), none⟩, ⟨some 28, .fld 2 (.tmp 8), none⟩, ⟨some 29, .load false 1 (.tmp 28), none⟩, ⟨some 30, .bin .add (.tmp 27) (.tmp 29), none⟩, ⟨some
    6, .mv (.tmp 30), none⟩]) .ret) .skip)))) (.region [⟨some 31, .bin .add (.tmp 15) (.const (.int .i64 1)), none⟩, ⟨some 15, .mv (.tmp 31), none⟩]))))))) (.seq (.region [⟨some 32,
    .mv (.tmp 1), none⟩, ⟨some 6, .mv (.tmp 32), none⟩]) .ret))))
theorem low122 : lowF Tryz.prog [3] Tryz.f122 = some (33, lc122.strip, [.tmp 6]) := by kernel_rfl
theorem fn122 : FnOk Tryz.prog 122 33 lc122 [.tmp 6] := ⟨Tryz.call122, [3], _, Tryz.func122, low122⟩
/-- slices.BinarySearch[[]int,int] -/
def lc123 : LCode :=
  (.seq (.region [⟨some 4, .mv (.const (.int .i64 0)), none⟩, ⟨some 5, .mv (.const (.bool false)), none⟩]) (.seq (.region [⟨some 10, .mv (.tmp 0), none⟩, ⟨some 11, .len (.tmp 10),
    none⟩, ⟨some 6, .mv (.tmp 11), none⟩]) (.seq (.region [⟨some 12, .mv (.tmp 6), none⟩, ⟨some 7, .mv (.const (.int .i64 0)), none⟩, ⟨some 8, .mv (.tmp 12), none⟩]) (.seq (.block 0
    (.loop (.seq (.seq (.region [⟨some 13, .mv (.tmp 7), none⟩, ⟨some 14, .mv (.tmp 8), none⟩, ⟨some 15, .bin .lss (.tmp 13) (.tmp 14), none⟩]) (.cond (.tmp 15) .skip (.exit 0)))
    (.block 1 (.seq (.region [⟨some 16, .mv (.tmp 7), none⟩, ⟨some 17, .mv (.tmp 8), none⟩, ⟨some 18, .bin .add (.tmp 16) (.tmp 17), none⟩, ⟨some 19, .conv .u64 (.tmp 18), none⟩,
    ⟨some 20, .bin .shr (.tmp 19) (.const (.int .u64 1)), none⟩, ⟨some 21, .conv .i64 (.tmp 20), none⟩, ⟨some 9, .mv (.tmp 21), none⟩]) (.seq (.region [⟨some 22, .mv (.tmp 0),
    none⟩, ⟨some 23, .mv (.tmp 9), none⟩, ⟨some 24, .idx 1 (.tmp 22) (.tmp 23), none⟩, ⟨some 25, .load false 1 (.tmp 24), none⟩, ⟨some 26, .mv (.tmp 1), none⟩, ⟨some 27, .call
    (.func 137) [(.tmp 25), (.tmp 26)], none⟩]) (.cond (.tmp 27) (.region [⟨some 28, .mv (.tmp 9), none⟩, ⟨some 29, .bin .add (.tmp 28) (.const (.int .i64 1)), none⟩, ⟨some 7, .mv
    (.tmp 29), none⟩]) (.region [⟨some 30, .mv (.tmp 9), none⟩, ⟨some 8, .mv (.tmp 30), none⟩])))))))) (.seq (.region [⟨some 31, .mv (.tmp 7), none⟩, ⟨some 32, .mv (.tmp 7), none⟩,
    ⟨some 33, .mv (.tmp 6), none⟩, ⟨some 34, .bin .lss (.tmp 32) (.tmp 33), none⟩, ⟨some 35, .mv (.tmp 34), none⟩, ⟨some 36, .mv (.tmp 0), some (35, true)⟩, ⟨some 37, .mv (.tmp 7),
    some (35, true)⟩, ⟨some 38, .idx 1 (.tmp 36) (.tmp 37), some (35, true)⟩, ⟨some 39, .load false 1 (.tmp 38), some (35, true)⟩, ⟨some 40, .mv (.tmp 1), some (35, true)⟩, ⟨some
    41, .bin .eql (.tmp 39) (.tmp 40), some (35, true)⟩, ⟨some 42, .mv (.tmp 41), some (35, true)⟩, ⟨some 43, .mv (.tmp 0), some (42, false)⟩, ⟨some 44, .mv (.tmp 7), some (42,
    false)⟩, ⟨some 45, .idx 1 (.tmp 43) (.tmp 44), some (42, false)⟩, ⟨some 46, .load false 1 (.tmp 45), some (42, false)⟩, ⟨some 47, .call (.func 138) [(.tmp 46)], some (42,
    false)⟩, ⟨some 48, .mv (.tmp 47), some (42, false)⟩, ⟨some 49, .mv (.tmp 1), some (48, true)⟩, ⟨some 50, .call (.func 138) [(.tmp 49)], some (48, true)⟩, ⟨some 51, .pick (.tmp
    48) (.tmp 50) (.const (.bool false)), some (42, false)⟩, ⟨some 52, .pick (.tmp 42) (.const (.bool true)) (.tmp 51), some (35, true)⟩, ⟨some 53, .pick (.tmp 35) (.tmp 52) (.const
    (.bool false)), none⟩, ⟨some 4, .mv (.tmp 31), none⟩, ⟨some 5, .mv (.tmp 53), none⟩]) .ret)))))
theorem low123 : lowF Tryz.prog [] Tryz.f123 = some (54, lc123.strip, [.tmp 4, .tmp 5]) := by kernel_rfl
theorem fn123 : FnOk Tryz.prog 123 54 lc123 [.tmp 4, .tmp 5] := ⟨Tryz.call123, [], _, Tryz.func123, low123⟩
/-- slices.Insert[[]int,int] -/
def lc124 : LCode :=
  (.seq (.region [⟨some 6, .mv (.const (.slice none 0 0)), none⟩]) (.seq (.region [⟨some 10, .mv (.tmp 0), none⟩, ⟨some 11, .mv (.tmp 1), none⟩, ⟨some 12, .slc 1 (.tmp 10) (some
    (.tmp 11)) none, none⟩]) (.seq (.region [⟨some 13, .mv (.tmp 2), none⟩, ⟨some 14, .len (.tmp 13), none⟩, ⟨some 7, .mv (.tmp 14), none⟩]) (.seq (.seq (.region [⟨some 15, .mv
    (.tmp 7), none⟩, ⟨some 16, .bin .eql (.tmp 15) (.const (.int .i64 0)), none⟩]) (.cond (.tmp 16) (.seq (.region [⟨some 17, .mv (.tmp 0), none⟩, ⟨some 6, .mv (.tmp 17), none⟩])
    .ret) .skip)) (.seq (.region [⟨some 18, .mv (.tmp 0), none⟩, ⟨some 19, .len (.tmp 18), none⟩, ⟨some 8, .mv (.tmp 19), none⟩]) (.seq (.seq (.region [⟨some 20, .mv (.tmp 1),
    none⟩, ⟨some 21, .mv (.tmp 8), none⟩, ⟨some 22, .bin .eql (.tmp 20) (.tmp 21), none⟩]) (.cond (.tmp 22) (.seq (.region [⟨some 23, .mv (.tmp 0), none⟩, ⟨some 24, .mv (.tmp 2),
    none⟩, ⟨some 25, .append true 3 1 8 (.tmp 23) (.tmp 24), none⟩, ⟨some 6, .mv (.tmp 25), none⟩]) .ret) .skip)) (.seq (.seq (.region [⟨some 26, .mv (.tmp 8), none⟩, ⟨some 27, .mv
    (.tmp 7), none⟩, ⟨some 28, .bin .add (.tmp 26) (.tmp 27), none⟩, ⟨some 29, .mv (.tmp 0), none⟩, ⟨some 30, .cap (.tmp 29), none⟩, ⟨some 31, .bin .gtr (.tmp 28) (.tmp 30), none⟩])
    (.cond (.tmp 31) (.seq (.region [⟨some 32, .mv (.tmp 0), none⟩, ⟨some 33, .mv (.tmp 1), none⟩, ⟨some 34, .slc 1 (.tmp 32) none (some (.tmp 33)), none⟩, ⟨some 35, .mv (.tmp 8),
    none⟩, ⟨some 36, .mv (.tmp 7), none⟩, ⟨some 37, .bin .add (.tmp 35) (.tmp 36), none⟩, ⟨some 38, .mv (.tmp 1), none⟩, ⟨some 39, .bin .sub (.tmp 37) (.tmp 38), none⟩, ⟨some 40,
    .appendN 3 1 8 [(.int .i64 0)] (.tmp 34) (.tmp 39), none⟩, ⟨some 9, .mv (.tmp 40), none⟩]) (.seq (.region [⟨some 41, .mv (.tmp 9), none⟩, ⟨some 42, .mv (.tmp 1), none⟩, ⟨some
    43, .slc 1 (.tmp 41) (some (.tmp 42)) none, none⟩, ⟨some 44, .mv (.tmp 2), none⟩, ⟨some 45, .bad, none⟩]) (.seq (.regionD [⟨some 46, .mv (.tmp 9), none⟩, ⟨some 47, .mv (.tmp 1),
    none⟩, ⟨some 48, .mv (.tmp 7), none⟩, ⟨some 49, .bin .add (.tmp 47) (.tmp 48), none⟩, ⟨some 50, .slc 1 (.tmp 46) (some (.tmp 49)) none, none⟩, ⟨some 51, .mv (.tmp 0), none⟩,
    ⟨some 52, .mv (.tmp 1), none⟩, ⟨some 53, .slc 1 (.tmp 51) (some (.tmp 52)) none, none⟩, ⟨some 54, .bad, none⟩] [0, 0, 0, 6, 15, 0, 0, 96, 255] [0, 1, 2, 3, 4, 5, 6, 7, 8]) (.seq
    (.region [⟨some 55, .mv (.tmp 9), none⟩, ⟨some 6, .mv (.tmp 55), none⟩]) .ret)))) .skip)) (.seq (.region [⟨some 56, .mv (.tmp 0), none⟩, ⟨some 57, .mv (.tmp 8), none⟩, ⟨some 58,
    .mv (.tmp 7), none⟩, ⟨some 59, .bin .add (.tmp 57) (.tmp 58), none⟩, ⟨some 60, .slc 1 (.tmp 56) none (some (.tmp 59)), none⟩, ⟨some 0, .mv (.tmp 60), none⟩]) (.seq (.seq
    (.region [⟨some 61, .mv (.tmp 2), none⟩, ⟨some 62, .mv (.tmp 0), none⟩, ⟨some 63, .mv (.tmp 1), none⟩, ⟨some 64, .mv (.tmp 7), none⟩, ⟨some 65, .bin .add (.tmp 63) (.tmp 64),
    none⟩, ⟨some 66, .slc 1 (.tmp 62) (some (.tmp 65)) none, none⟩, ⟨some 67, .call (.func 139) [(.tmp 61), (.tmp 66)], none⟩, ⟨some 68, .un .not (.tmp 67), none⟩]) (.cond (.tmp 68)
    (.seq (.regionD [⟨some 69, .mv (.tmp 0), none⟩, ⟨some 70, .mv (.tmp 1), none⟩, ⟨some 71, .mv (.tmp 7), none⟩, ⟨some 72, .bin .add (.tmp 70) (.tmp 71), none⟩, ⟨some 73, .slc 1
    (.tmp 69) (some (.tmp 72)) none, none⟩, ⟨some 74, .mv (.tmp 0), none⟩, ⟨some 75, .mv (.tmp 1), none⟩, ⟨some 76, .slc 1 (.tmp 74) (some (.tmp 75)) none, none⟩, ⟨some 77, .bad,
    none⟩] [0, 0, 0, 6, 15, 0, 0, 96, 255] [0, 1, 2, 3, 4, 5, 6, 7, 8]) (.seq (.region [⟨some 78, .mv (.tmp 0), none⟩, ⟨some 79, .mv (.tmp 1), none⟩, ⟨some 80, .slc 1 (.tmp 78)
    (some (.tmp 79)) none, none⟩, ⟨some 81, .mv (.tmp 2), none⟩, ⟨some 82, .bad, none⟩]) (.seq (.region [⟨some 83, .mv (.tmp 0), none⟩, ⟨some 6, .mv (.tmp 83), none⟩]) .ret)))
    .skip)) (.seq (.region [⟨some 84, .mv (.tmp 0), none⟩, ⟨some 85, .mv (.tmp 8), none⟩, ⟨some 86, .slc 1 (.tmp 84) (some (.tmp 85)) none, none⟩, ⟨some 87, .mv (.tmp 2), none⟩,
    ⟨some 88, .bad, none⟩]) (.seq (.region [⟨some 89, .mv (.tmp 0), none⟩, ⟨some 90, .mv (.tmp 1), none⟩, ⟨some 91, .slc 1 (.tmp 89) (some (.tmp 90)) none, none⟩, ⟨some 92, .mv
    (.tmp 7), none⟩, ⟨some 93, .call (.func 140) [(.tmp 91), (.tmp 92)], none⟩]) (.seq (.region [⟨some 94, .mv (.tmp 0), none⟩, ⟨some 6, .mv (.tmp 94), none⟩]) .ret))))))))))))
theorem low124 : lowF Tryz.prog [25] Tryz.f124 = some (95, lc124.strip, [.tmp 6]) := by kernel_rfl
theorem fn124 : FnOk Tryz.prog 124 95 lc124 [.tmp 6] := ⟨Tryz.call124, [25], _, Tryz.func124, low124⟩
/-- (moonpool/dive.dive).plans$1 -/
def lc125 : LCode :=
  (.seq (.region [⟨some 3, .box (.tmp 0), none⟩]) (.seq (.region [⟨some 4, .alloc [.nilFunc], none⟩]) (.seq (.region [⟨some 5, .mkfn 126 [(.tmp 3), (.tmp 1), (.tmp 4)], none⟩,
    ⟨none, .store 1 (.tmp 4) (.tmp 5), none⟩]) (.region [⟨some 6, .load false 1 (.tmp 4), none⟩, ⟨some 7, .load true 13 (.tmp 2), none⟩, ⟨some 8, .call (.tmp 6) [(.tmp 7), (.const
    (.slice none 0 0))], none⟩]))))
theorem low125 : lowF Tryz.prog [] Tryz.f125 = some (9, lc125.strip, []) := by kernel_rfl
theorem fn125 : FnOk Tryz.prog 125 9 lc125 [] := ⟨Tryz.call125, [], _, Tryz.func125, low125⟩
/-- slices.Clip[[]int,int] -/
def lc127 : LCode :=
  (.seq (.region [⟨some 2, .mv (.const (.slice none 0 0)), none⟩]) (.seq (.region [⟨some 3, .mv (.tmp 0), none⟩, ⟨some 4, .mv (.tmp 0), none⟩, ⟨some 5, .len (.tmp 4), none⟩, ⟨some
    6, .mv (.tmp 0), none⟩, ⟨some 7, .len (.tmp 6), none⟩, ⟨some 8, .clip 1 (.tmp 3) (.tmp 5) (.tmp 7), none⟩, ⟨some 2, .mv (.tmp 8), none⟩]) .ret))
theorem low127 : lowF Tryz.prog [] Tryz.f127 = some (9, lc127.strip, [.tmp 2]) := by kernel_rfl
theorem fn127 : FnOk Tryz.prog 127 9 lc127 [.tmp 2] := ⟨Tryz.call127, [], _, Tryz.func127, low127⟩
/-- moonpool/dive.tasksErr$1 -/
def lc128 : LCode :=
  (.seq (.region [⟨some 4, .boxS (.tmp 1), none⟩, ⟨some 5, .mv (.const (.int .i64 0)), none⟩]) (.seq (.region [⟨some 9, .load false 1 (.tmp 2), none⟩, ⟨some 10, .mv (.tmp 0), none⟩,
    ⟨some 11, .slc 9 (.tmp 9) none (some (.tmp 10)), none⟩, ⟨some 12, .mkfn 130 [(.tmp 4)], none⟩, ⟨some 13, .call (.func 129) [(.tmp 11), (.tmp 12)], none⟩, ⟨some 6, .mv (.tmp 13),
    none⟩]) (.seq (.region [⟨some 14, .fld 2 (.tmp 4), none⟩, ⟨some 15, .load false 1 (.tmp 14), none⟩, ⟨some 16, .fld 3 (.tmp 4), none⟩, ⟨some 17, .load false 1 (.tmp 16), none⟩,
    ⟨some 18, .fld 4 (.tmp 4), none⟩, ⟨some 19, .load false 1 (.tmp 18), none⟩, ⟨some 20, .fld 5 (.tmp 4), none⟩, ⟨some 21, .load false 1 (.tmp 20), none⟩, ⟨some 22, .lit false 3 1
    [(.tmp 15), (.tmp 17), (.tmp 19), (.tmp 21)], none⟩, ⟨some 23, .call (.func 56) [(.tmp 22), (.func 131)], none⟩, ⟨some 7, .mv (.tmp 23), none⟩]) (.seq (.seq (.regionD [⟨some 24,
    .fld 0 (.tmp 4), none⟩, ⟨some 25, .load false 1 (.tmp 24), none⟩, ⟨some 26, .call (.func 132) [(.tmp 25)], none⟩, ⟨some 27, .call (.func 55) [(.tmp 26), (.const (.int .i64 4))],
    none⟩, ⟨some 28, .mv (.tmp 6), none⟩, ⟨some 29, .un .not (.tmp 28), none⟩, ⟨some 30, .call (.func 55) [(.tmp 29), (.const (.int .i64 5))], none⟩, ⟨some 31, .fld 1 (.tmp 4),
    none⟩, ⟨some 32, .load false 1 (.tmp 31), none⟩, ⟨some 33, .call (.func 69) [(.tmp 32), (.const (.int .i64 0)), (.const (.int .i64 4))], none⟩, ⟨some 34, .mv (.tmp 33), none⟩,
    ⟨some 35, .mv (.tmp 7), some (34, true)⟩, ⟨some 36, .un .not (.tmp 35), some (34, true)⟩, ⟨some 37, .pick (.tmp 34) (.tmp 36) (.const (.bool false)), none⟩, ⟨some 38, .call
    (.func 55) [(.tmp 37), (.const (.int .i64 2))], none⟩, ⟨some 39, .fld 6 (.tmp 4), none⟩, ⟨some 40, .load true 2 (.tmp 39), none⟩, ⟨some 41, .call (.func 133) [(.tmp 40)], none⟩,
    ⟨some 42, .lit false 33 1 [(.tmp 27), (.tmp 30), (.tmp 38), (.tmp 41)], none⟩, ⟨some 43, .call (.func 54) [(.tmp 42)], none⟩, ⟨some 8, .mv (.tmp 43), none⟩] [0, 1, 3, 7, 0, 16,
    63, 0, 128, 511, 1023, 2047, 4095, 8191, 16383, 0, 32768, 131071, 262143, 524287, 1048575] [0, 1, 2, 3, 4, 5, 6, 7, 8, 9, 10, 11, 12, 13, 14, 15, 16, 17, 18, 19, 20]) (.seq
    (.region [⟨some 44, .mv (.tmp 8), none⟩, ⟨some 45, .bin .neq (.tmp 44) (.const (.int .i64 0)), none⟩]) (.cond (.tmp 45) (.seq (.region [⟨some 46, .mv (.tmp 8), none⟩, ⟨some 5,
    .mv (.tmp 46), none⟩]) .ret) .skip))) (.seq (.region [⟨some 47, .fld 8 (.tmp 4), none⟩, ⟨some 48, .load false 1 (.tmp 47), none⟩, ⟨some 49, .mv (.tmp 0), none⟩, ⟨some 50, .call
    (.func 134) [(.tmp 48), (.tmp 49)], none⟩, ⟨some 5, .mv (.tmp 50), none⟩]) .ret)))))
theorem low128 : lowF Tryz.prog [4] Tryz.f128 = some (51, lc128.strip, [.tmp 5]) := by kernel_rfl
theorem fn128 : FnOk Tryz.prog 128 51 lc128 [.tmp 5] := ⟨Tryz.call128, [4], _, Tryz.func128, low128⟩
/-- slices.ContainsFunc[[]moonpool/api.DiveTask,moonpool/api.DiveTask] -/
def lc129 : LCode :=
  (.seq (.region [⟨some 4, .mv (.const (.bool false)), none⟩]) (.seq (.region [⟨some 5, .mv (.tmp 0), none⟩, ⟨some 6, .mv (.tmp 1), none⟩, ⟨some 7, .call (.func 141) [(.tmp 5),
    (.tmp 6)], none⟩, ⟨some 8, .bin .geq (.tmp 7) (.const (.int .i64 0)), none⟩, ⟨some 4, .mv (.tmp 8), none⟩]) .ret))
theorem low129 : lowF Tryz.prog [] Tryz.f129 = some (9, lc129.strip, [.tmp 4]) := by kernel_rfl
theorem fn129 : FnOk Tryz.prog 129 9 lc129 [.tmp 4] := ⟨Tryz.call129, [], _, Tryz.func129, low129⟩
/-- moonpool/dive.tasksErr$1$1 -/
def lc130 : LCode :=
  (.seq (.region [⟨some 2, .boxS (.tmp 0), none⟩, ⟨some 3, .mv (.const (.bool false)), none⟩]) (.seq (.region [⟨some 4, .fld 0 (.tmp 2), none⟩, ⟨some 5, .load false 1 (.tmp 4),
    none⟩, ⟨some 6, .fld 0 (.tmp 1), none⟩, ⟨some 7, .load false 1 (.tmp 6), none⟩, ⟨some 8, .eqS false (.tmp 5) (.tmp 7), none⟩, ⟨some 3, .mv (.tmp 8), none⟩]) .ret))
theorem low130 : lowF Tryz.prog [2] Tryz.f130 = some (9, lc130.strip, [.tmp 3]) := by kernel_rfl
theorem fn130 : FnOk Tryz.prog 130 9 lc130 [.tmp 3] := ⟨Tryz.call130, [2], _, Tryz.func130, low130⟩
/-- moonpool/dive.tasksErr$1$2 -/
def lc131 : LCode :=
  (.seq (.region [⟨some 2, .mv (.const (.bool false)), none⟩]) (.seq (.region [⟨some 3, .mv (.tmp 0), none⟩, ⟨some 4, .call (.func 84) [(.tmp 3)], none⟩, ⟨some 5, .un .not (.tmp 4),
    none⟩, ⟨some 2, .mv (.tmp 5), none⟩]) .ret))
theorem low131 : lowF Tryz.prog [] Tryz.f131 = some (6, lc131.strip, [.tmp 2]) := by kernel_rfl
theorem fn131 : FnOk Tryz.prog 131 6 lc131 [.tmp 2] := ⟨Tryz.call131, [], _, Tryz.func131, low131⟩
/-- moonpool/dive.isName -/
def lc132 : LCode :=
  (.seq (.region [⟨some 2, .mv (.const (.bool false)), none⟩]) (.seq (.seq (.region [⟨some 6, .mv (.tmp 0), none⟩, ⟨some 7, .lenS (.tmp 6), none⟩, ⟨some 8, .mv (.const (.int .i64
    0)), none⟩]) (.block 0 (.loop (.seq (.region [⟨some 9, .bin .lss (.tmp 8) (.tmp 7), none⟩]) (.seq (.cond (.tmp 9) .skip (.exit 0)) (.seq (.block 1 (.seq (.region [⟨some 10, .mv
    (.tmp 8), none⟩, ⟨some 3, .mv (.tmp 10), none⟩]) (.seq (.region [⟨some 11, .mv (.tmp 0), none⟩, ⟨some 12, .mv (.tmp 3), none⟩, ⟨some 13, .indexS (.tmp 11) (.tmp 12), none⟩,
    ⟨some 4, .mv (.tmp 13), none⟩]) (.seq (.region [⟨some 14, .mv (.tmp 4), none⟩, ⟨some 15, .bin .geq (.tmp 14) (.const (.int .u8 97)), none⟩, ⟨some 16, .mv (.tmp 15), none⟩, ⟨some
    17, .mv (.tmp 4), some (16, true)⟩, ⟨some 18, .bin .leq (.tmp 17) (.const (.int .u8 122)), some (16, true)⟩, ⟨some 19, .pick (.tmp 16) (.tmp 18) (.const (.bool false)), none⟩,
    ⟨some 20, .mv (.tmp 19), none⟩, ⟨some 21, .mv (.tmp 4), some (20, false)⟩, ⟨some 22, .bin .geq (.tmp 21) (.const (.int .u8 65)), some (20, false)⟩, ⟨some 23, .mv (.tmp 22), some
    (20, false)⟩, ⟨some 24, .mv (.tmp 4), some (23, true)⟩, ⟨some 25, .bin .leq (.tmp 24) (.const (.int .u8 90)), some (23, true)⟩, ⟨some 26, .pick (.tmp 23) (.tmp 25) (.const
    (.bool false)), some (20, false)⟩, ⟨some 27, .pick (.tmp 20) (.const (.bool true)) (.tmp 26), none⟩, ⟨some 5, .mv (.tmp 27), none⟩]) (.seq (.region [⟨some 28, .mv (.tmp 5),
    none⟩, ⟨some 29, .un .not (.tmp 28), none⟩, ⟨some 30, .mv (.tmp 29), none⟩, ⟨some 31, .mv (.tmp 3), some (30, true)⟩, ⟨some 32, .bin .eql (.tmp 31) (.const (.int .i64 0)), some
    (30, true)⟩, ⟨some 33, .mv (.tmp 32), some (30, true)⟩, ⟨some 34, .mv (.tmp 4), some (33, false)⟩, ⟨some 35, .bin .neq (.tmp 34) (.const (.int .u8 45)), some (33, false)⟩, ⟨some
    36, .mv (.tmp 35), some (33, false)⟩, ⟨some 37, .mv (.tmp 4), some (36, true)⟩, ⟨some 38, .bin .lss (.tmp 37) (.const (.int .u8 48)), some (36, true)⟩, ⟨some 39, .mv (.tmp 38),
    some (36, true)⟩, ⟨some 40, .mv (.tmp 4), some (39, false)⟩, ⟨some 41, .bin .gtr (.tmp 40) (.const (.int .u8 57)), some (39, false)⟩, ⟨some 42, .pick (.tmp 39) (.const (.bool
    true)) (.tmp 41), some (36, true)⟩, ⟨some 43, .pick (.tmp 36) (.tmp 42) (.const (.bool false)), some (33, false)⟩, ⟨some 44, .pick (.tmp 33) (.const (.bool true)) (.tmp 43),
    some (30, true)⟩, ⟨some 45, .pick (.tmp 30) (.tmp 44) (.const (.bool false)), none⟩]) (.cond (.tmp 45) (.seq (.region [⟨some 2, .mv (.const (.bool false)), none⟩]) .ret)
    .skip)))))) (.region [⟨some 46, .bin .add (.tmp 8) (.const (.int .i64 1)), none⟩, ⟨some 8, .mv (.tmp 46), none⟩]))))))) (.seq (.region [⟨some 47, .mv (.tmp 0), none⟩, ⟨some 48,
    .lenS (.tmp 47), none⟩, ⟨some 49, .call (.func 69) [(.tmp 48), (.const (.int .i64 1)), (.const (.int .i64 12))], none⟩, ⟨some 2, .mv (.tmp 49), none⟩]) .ret)))
theorem low132 : lowF Tryz.prog [] Tryz.f132 = some (50, lc132.strip, [.tmp 2]) := by kernel_rfl
theorem fn132 : FnOk Tryz.prog 132 50 lc132 [.tmp 2] := ⟨Tryz.call132, [], _, Tryz.func132, low132⟩
/-- moonpool/dive.areTicks -/
def lc133 : LCode :=
  (.seq (.region [⟨some 1, .boxS (.tmp 0), none⟩, ⟨some 2, .mv (.const (.int .i64 0)), none⟩]) (.seq (.regionD [⟨some 3, .fld 0 (.tmp 1), none⟩, ⟨some 4, .load false 1 (.tmp 3),
    none⟩, ⟨some 5, .call (.func 113) [(.tmp 4)], none⟩, ⟨some 6, .mv (.tmp 5), none⟩, ⟨some 7, .fld 1 (.tmp 1), some (6, true)⟩, ⟨some 8, .load false 1 (.tmp 7), some (6, true)⟩,
    ⟨some 9, .call (.func 113) [(.tmp 8)], some (6, true)⟩, ⟨some 10, .pick (.tmp 6) (.tmp 9) (.const (.bool false)), none⟩, ⟨some 11, .call (.func 55) [(.tmp 10), (.const (.int
    .i64 2))], none⟩, ⟨some 12, .fld 0 (.tmp 1), none⟩, ⟨some 13, .load false 1 (.tmp 12), none⟩, ⟨some 14, .fld 1 (.tmp 1), none⟩, ⟨some 15, .load false 1 (.tmp 14), none⟩, ⟨some
    16, .bin .leq (.tmp 13) (.tmp 15), none⟩, ⟨some 17, .call (.func 55) [(.tmp 16), (.const (.int .i64 9))], none⟩, ⟨some 18, .lit false 33 1 [(.tmp 11), (.tmp 17)], none⟩, ⟨some
    19, .call (.func 54) [(.tmp 18)], none⟩, ⟨some 2, .mv (.tmp 19), none⟩] [0, 1, 3, 7, 15, 31, 63, 127, 255, 0, 512, 0, 2048, 7680, 16383, 32767, 65535, 131071] [0, 1, 2, 3, 4, 5,
    6, 7, 8, 9, 10, 11, 12, 13, 14, 15, 16, 17]) .ret))
theorem low133 : lowF Tryz.prog [1] Tryz.f133 = some (20, lc133.strip, [.tmp 2]) := by kernel_rfl
theorem fn133 : FnOk Tryz.prog 133 20 lc133 [.tmp 2] := ⟨Tryz.call133, [1], _, Tryz.func133, low133⟩
/-- moonpool/dive.ascending -/
def lc134 : LCode :=
  (.seq (.region [⟨some 4, .mv (.const (.int .i64 0)), none⟩]) (.seq (.region [⟨some 8, .mv (.tmp 0), none⟩, ⟨some 9, .mv (.tmp 1), none⟩, ⟨some 10, .call (.func 119) [(.tmp 8),
    (.tmp 9)], none⟩, ⟨some 7, .mv (.tmp 10), none⟩, ⟨some 11, .ext (.tmp 7) 0, none⟩, ⟨some 12, .ext (.tmp 7) 1, none⟩, ⟨some 5, .mv (.tmp 11), none⟩, ⟨some 6, .mv (.tmp 12),
    none⟩]) (.seq (.region [⟨some 13, .mv (.tmp 6), none⟩, ⟨some 4, .mv (.tmp 13), none⟩]) .ret)))
theorem low134 : lowF Tryz.prog [] Tryz.f134 = some (14, lc134.strip, [.tmp 4]) := by kernel_rfl
theorem fn134 : FnOk Tryz.prog 134 14 lc134 [.tmp 4] := ⟨Tryz.call134, [], _, Tryz.func134, low134⟩
/-- moonpool/moonpoolbase.IsName -/
def lc135 : LCode :=
  (.seq (.region [⟨some 2, .mv (.const (.bool false)), none⟩]) (.seq (.seq (.region [⟨some 6, .mv (.tmp 0), none⟩, ⟨some 7, .lenS (.tmp 6), none⟩, ⟨some 8, .bin .lss (.tmp 7)
    (.const (.int .i64 1)), none⟩, ⟨some 9, .mv (.tmp 8), none⟩, ⟨some 10, .mv (.tmp 0), some (9, false)⟩, ⟨some 11, .lenS (.tmp 10), some (9, false)⟩, ⟨some 12, .bin .gtr (.tmp 11)
    (.const (.int .i64 12)), some (9, false)⟩, ⟨some 13, .pick (.tmp 9) (.const (.bool true)) (.tmp 12), none⟩]) (.cond (.tmp 13) (.seq (.region [⟨some 2, .mv (.const (.bool
    false)), none⟩]) .ret) .skip)) (.seq (.seq (.region [⟨some 3, .mv (.const (.int .i64 0)), none⟩]) (.block 0 (.loop (.seq (.seq (.region [⟨some 14, .mv (.tmp 3), none⟩, ⟨some 15,
    .mv (.tmp 0), none⟩, ⟨some 16, .lenS (.tmp 15), none⟩, ⟨some 17, .bin .lss (.tmp 14) (.tmp 16), none⟩]) (.cond (.tmp 17) .skip (.exit 0))) (.seq (.block 1 (.seq (.region [⟨some
    20, .mv (.tmp 0), none⟩, ⟨some 21, .mv (.tmp 3), none⟩, ⟨some 22, .indexS (.tmp 20) (.tmp 21), none⟩, ⟨some 4, .mv (.tmp 22), none⟩]) (.seq (.region [⟨some 23, .mv (.tmp 4),
    none⟩, ⟨some 24, .bin .geq (.tmp 23) (.const (.int .u8 97)), none⟩, ⟨some 25, .mv (.tmp 24), none⟩, ⟨some 26, .mv (.tmp 4), some (25, true)⟩, ⟨some 27, .bin .leq (.tmp 26)
    (.const (.int .u8 122)), some (25, true)⟩, ⟨some 28, .pick (.tmp 25) (.tmp 27) (.const (.bool false)), none⟩, ⟨some 29, .mv (.tmp 28), none⟩, ⟨some 30, .mv (.tmp 4), some (29,
    false)⟩, ⟨some 31, .bin .geq (.tmp 30) (.const (.int .u8 65)), some (29, false)⟩, ⟨some 32, .mv (.tmp 31), some (29, false)⟩, ⟨some 33, .mv (.tmp 4), some (32, true)⟩, ⟨some 34,
    .bin .leq (.tmp 33) (.const (.int .u8 90)), some (32, true)⟩, ⟨some 35, .pick (.tmp 32) (.tmp 34) (.const (.bool false)), some (29, false)⟩, ⟨some 36, .pick (.tmp 29) (.const
    (.bool true)) (.tmp 35), none⟩, ⟨some 5, .mv (.tmp 36), none⟩]) (.seq (.region [⟨some 37, .mv (.tmp 5), none⟩, ⟨some 38, .un .not (.tmp 37), none⟩, ⟨some 39, .mv (.tmp 38),
    none⟩, ⟨some 40, .mv (.tmp 3), some (39, true)⟩, ⟨some 41, .bin .eql (.tmp 40) (.const (.int .i64 0)), some (39, true)⟩, ⟨some 42, .mv (.tmp 41), some (39, true)⟩, ⟨some 43, .mv
    (.tmp 4), some (42, false)⟩, ⟨some 44, .bin .neq (.tmp 43) (.const (.int .u8 45)), some (42, false)⟩, ⟨some 45, .mv (.tmp 44), some (42, false)⟩, ⟨some 46, .mv (.tmp 4), some
    (45, true)⟩, ⟨some 47, .bin .lss (.tmp 46) (.const (.int .u8 48)), some (45, true)⟩, ⟨some 48, .mv (.tmp 47), some (45, true)⟩, ⟨some 49, .mv (.tmp 4), some (48, false)⟩, ⟨some
    50, .bin .gtr (.tmp 49) (.const (.int .u8 57)), some (48, false)⟩, ⟨some 51, .pick (.tmp 48) (.const (.bool true)) (.tmp 50), some (45, true)⟩, ⟨some 52, .pick (.tmp 45) (.tmp
    51) (.const (.bool false)), some (42, false)⟩, ⟨some 53, .pick (.tmp 42) (.const (.bool true)) (.tmp 52), some (39, true)⟩, ⟨some 54, .pick (.tmp 39) (.tmp 53) (.const (.bool
    false)), none⟩]) (.cond (.tmp 54) (.seq (.region [⟨some 2, .mv (.const (.bool false)), none⟩]) .ret) .skip))))) (.region [⟨some 18, .mv (.tmp 3), none⟩, ⟨some 19, .bin .add
    (.tmp 18) (.const (.int .i64 1)), none⟩, ⟨some 3, .mv (.tmp 19), none⟩])))))) (.seq (.region [⟨some 2, .mv (.const (.bool true)), none⟩]) .ret))))
theorem low135 : lowF Tryz.prog [] Tryz.f135 = some (55, lc135.strip, [.tmp 2]) := by kernel_rfl
theorem fn135 : FnOk Tryz.prog 135 55 lc135 [.tmp 2] := ⟨Tryz.call135, [], _, Tryz.func135, low135⟩
/-- moonpool/dive.ascendingAt$1 -/
def lc136 : LCode :=
  (.seq (.region [⟨some 6, .mv (.const (.int .i64 0)), none⟩]) (.seq (.regionD [⟨some 8, .mv (.tmp 1), none⟩, ⟨some 9, .load false 1 (.tmp 2), none⟩, ⟨some 10, .bin .sub (.tmp 9)
    (.const (.int .i64 1)), none⟩, ⟨some 11, .call (.func 69) [(.tmp 8), (.const (.int .i64 0)), (.tmp 10)], none⟩, ⟨some 12, .call (.func 55) [(.tmp 11), (.const (.int .i64 6))],
    none⟩, ⟨some 13, .mv (.tmp 1), none⟩, ⟨some 14, .load false 1 (.tmp 3), none⟩, ⟨some 15, .bin .gtr (.tmp 13) (.tmp 14), none⟩, ⟨some 16, .call (.func 55) [(.tmp 15), (.const
    (.int .i64 9))], none⟩, ⟨some 17, .lit false 33 1 [(.tmp 12), (.tmp 16)], none⟩, ⟨some 18, .call (.func 54) [(.tmp 17)], none⟩, ⟨some 7, .mv (.tmp 18), none⟩] [0, 0, 2, 7, 15,
    0, 0, 96, 255, 511, 1023, 2047] [0, 1, 2, 3, 4, 5, 6, 7, 8, 9, 10, 11]) (.seq (.region [⟨some 19, .mv (.tmp 1), none⟩, ⟨none, .store 1 (.tmp 3) (.tmp 19), none⟩]) (.seq (.region
    [⟨some 20, .mv (.tmp 7), none⟩, ⟨some 6, .mv (.tmp 20), none⟩]) .ret))))
theorem low136 : lowF Tryz.prog [] Tryz.f136 = some (21, lc136.strip, [.tmp 6]) := by kernel_rfl
theorem fn136 : FnOk Tryz.prog 136 21 lc136 [.tmp 6] := ⟨Tryz.call136, [], _, Tryz.func136, low136⟩
/-- cmp.Less[int] -/
def lc137 : LCode :=
  (.seq (.region [⟨some 4, .mv (.const (.bool false)), none⟩]) (.seq (.region [⟨some 5, .mv (.tmp 0), none⟩, ⟨some 6, .call (.func 101) [(.tmp 5)], none⟩, ⟨some 7, .mv (.tmp 6),
    none⟩, ⟨some 8, .mv (.tmp 1), some (7, true)⟩, ⟨some 9, .call (.func 101) [(.tmp 8)], some (7, true)⟩, ⟨some 10, .un .not (.tmp 9), some (7, true)⟩, ⟨some 11, .pick (.tmp 7)
    (.tmp 10) (.const (.bool false)), none⟩, ⟨some 12, .mv (.tmp 11), none⟩, ⟨some 13, .mv (.tmp 0), some (12, false)⟩, ⟨some 14, .mv (.tmp 1), some (12, false)⟩, ⟨some 15, .bin
    .lss (.tmp 13) (.tmp 14), some (12, false)⟩, ⟨some 16, .pick (.tmp 12) (.const (.bool true)) (.tmp 15), none⟩, ⟨some 4, .mv (.tmp 16), none⟩]) .ret))
theorem low137 : lowF Tryz.prog [] Tryz.f137 = some (17, lc137.strip, [.tmp 4]) := by kernel_rfl
theorem fn137 : FnOk Tryz.prog 137 17 lc137 [.tmp 4] := ⟨Tryz.call137, [], _, Tryz.func137, low137⟩
/-- slices.isNaN[int] -/
def lc138 : LCode :=
  (.seq (.region [⟨some 2, .mv (.const (.bool false)), none⟩]) (.seq (.region [⟨some 3, .mv (.tmp 0), none⟩, ⟨some 4, .mv (.tmp 0), none⟩, ⟨some 5, .bin .neq (.tmp 3) (.tmp 4),
    none⟩, ⟨some 2, .mv (.tmp 5), none⟩]) .ret))
theorem low138 : lowF Tryz.prog [] Tryz.f138 = some (6, lc138.strip, [.tmp 2]) := by kernel_rfl
theorem fn138 : FnOk Tryz.prog 138 6 lc138 [.tmp 2] := ⟨Tryz.call138, [], _, Tryz.func138, low138⟩
/-- slices.IndexFunc[[]moonpool/api.DiveTask,moonpool/api.DiveTask] -/
def lc141 : LCode :=
  (.seq (.region [⟨some 4, .mv (.const (.int .i64 0)), none⟩]) (.seq (.seq (.region [⟨some 6, .mv (.tmp 0), none⟩, ⟨some 7, .len (.tmp 6), none⟩, ⟨some 8, .mv (.const (.int .i64
    0)), none⟩]) (.block 0 (.loop (.seq (.region [⟨some 9, .bin .lss (.tmp 8) (.tmp 7), none⟩]) (.seq (.cond (.tmp 9) .skip (.exit 0)) (.seq (.block 1 (.seq (.region [⟨some 10, .mv
    (.tmp 8), none⟩, ⟨some 5, .mv (.tmp 10), none⟩]) (.seq (.region [⟨some 11, .mv (.tmp 1), none⟩, ⟨some 12, .mv (.tmp 0), none⟩, ⟨some 13, .mv (.tmp 5), none⟩, ⟨some 14, .idx 9
    (.tmp 12) (.tmp 13), none⟩, ⟨some 15, .load true 9 (.tmp 14), none⟩, ⟨some 16, .call (.tmp 11) [(.tmp 15)], none⟩]) (.cond (.tmp 16) (.seq (.region [⟨some 17, .mv (.tmp 5),
    none⟩, ⟨some 4, .mv (.tmp 17), none⟩]) .ret) .skip)))) (.region [⟨some 18, .bin .add (.tmp 8) (.const (.int .i64 1)), none⟩, ⟨some 8, .mv (.tmp 18), none⟩]))))))) (.seq (.region
    [⟨some 4, .mv (.const (.int .i64 (-1))), none⟩]) .ret)))
theorem low141 : lowF Tryz.prog [] Tryz.f141 = some (19, lc141.strip, [.tmp 4]) := by kernel_rfl
theorem fn141 : FnOk Tryz.prog 141 19 lc141 [.tmp 4] := ⟨Tryz.call141, [], _, Tryz.func141, low141⟩
end Go.Pw

set_option linter.unusedSimpArgs false
set_option linter.unusedVariables false
namespace Go.Pw
set_option maxRecDepth 2000
open Go Go.Proofs A1 A2 A3 A4
instance : Mix Tryz.prog := ⟨⟨by kernel_rfl⟩⟩
theorem C69 {n lo hi : Int} : PFD Tryz.prog 69 [vi .i64 n, vi .i64 lo, vi .i64 hi] (vbl (wi n lo hi)) := by
  refine pi1 fn69 ?_
  (repeat' first | (refine Owe.same ?_; first | refine Owe.o ?_ | refine Owe.mk ?_ ?_) | (refine Fork.same ?_; (first | refine fkD ?_ ?_ | refine fkN ?_ ?_ | refine fkM ?_ ?_) <;> intro h) | refine MvQ.stay ?_)
  · (refine rqK rfl ?_; (repeat' first | exact rfl | (refine qS ?_; constructor))); simp [*]
  · (refine rqK rfl ?_; (repeat' first | exact rfl | (refine qS ?_; constructor))); simp only [decide_eq_false_iff_not]; omega
theorem C75 {n lo hi : Int} : PFD Tryz.prog 75 [vi .i64 n, vi .i64 lo, vi .i64 hi] (vbl (wi n lo hi)) := by
  refine pi1 fn75 ?_
  (repeat' first | (refine Owe.same ?_; first | refine Owe.o ?_ | refine Owe.mk ?_ ?_) | (refine Fork.same ?_; (first | refine fkD ?_ ?_ | refine fkN ?_ ?_ | refine fkM ?_ ?_) <;> intro h) | refine MvQ.stay ?_)
  · (refine rqK rfl ?_; (repeat' first | exact rfl | (refine qS ?_; constructor))); simp [*]
  · (refine rqK rfl ?_; (repeat' first | exact rfl | (refine qS ?_; constructor))); simp only [decide_eq_false_iff_not]; omega
theorem C55 {b : Bool} {e : Int} : PFD Tryz.prog 55 [vbl b, vi .i64 e] (vi .i64 (unb b e)) := by
  refine pi1 fn55 ?_
  (repeat' first | (refine Owe.same ?_; first | refine Owe.o ?_ | refine Owe.mk ?_ ?_) | (refine Fork.same ?_; (first | refine fkD ?_ ?_ | refine fkN ?_ ?_ | refine fkM ?_ ?_) <;> intro h) | refine MvQ.stay ?_)
  · (refine rqK rfl ?_; (repeat' first | exact rfl | (refine qS ?_; constructor))); simp [unb, *]
  · (refine rqK rfl ?_; (repeat' first | exact rfl | (refine qS ?_; constructor))); simp [unb, *]
theorem C54 {l : List Int} : l.length < 4611686018427387904 → PFD Tryz.prog 54 [.c (ints l)] (vi .i64 (fstE l)) := fun hl => by
  refine pi1 fn54 ?_
  (repeat' first | (refine Owe.same ?_; first | refine Owe.o ?_ | refine Owe.mk ?_ ?_) | (refine Fork.same ?_; (first | refine fkD ?_ ?_ | refine fkN ?_ ?_ | refine fkM ?_ ?_) <;> intro h) | refine MvQ.stay ?_)
  refine Sat.lp0 (fun k : Nat => [(7, vi .i64 k), (6, vi .i64 l.length), (5, .c (ints l))]) (fun k => k ≤ l.length ∧ fstE l = fstE (l.drop k)) (fun k => l.length - k) 0 ⟨Nat.zero_le _, rfl⟩ (by ((first | refine qen ?_ | refine qvs ?_ | refine qeq ?_ | refine qst ?_ | refine qv ?_ | refine qc ?_ | refine qe ?_ | refine qcs ?_ | skip); (repeat' first | exact rfl | (refine qS ?_; constructor)))) ?_
  intro k hk
  (repeat' first | (refine Owe.same ?_; first | refine Owe.o ?_ | refine Owe.mk ?_ ?_) | (refine Fork.same ?_; (first | refine fkD ?_ ?_ | refine fkN ?_ ?_ | refine fkM ?_ ?_) <;> intro h) | refine MvQ.stay ?_)
  · simp only [Int.toNat_natCast] at h
    (refine rqK rfl ?_; (repeat' first | exact rfl | (refine qS ?_; constructor)))
    rw [hk.2, fstE_drop l k (by omega), if_neg h, Int.toNat_natCast]
  · simp only [Int.toNat_natCast] at h
    refine again0 (k + 1) ⟨by omega, ?_⟩ (by omega) (by ((first | refine qen ?_ | refine qvs ?_ | refine qeq ?_ | refine qst ?_ | refine qv ?_ | refine qc ?_ | refine qe ?_ | refine qcs ?_ | skip); (repeat' first | exact rfl | (refine qS ?_; constructor))))
    rw [hk.2, fstE_drop l k (by omega), if_pos h]
  · (refine rqK rfl ?_; (repeat' first | exact rfl | (refine qS ?_; constructor)))
    rw [hk.2, List.drop_of_length_le (by omega)]; rfl
abbrev isN (n : Int) : Prop := 0 ≤ n ∧ n ≤ 10000
abbrev isT (n : Int) : Prop := 0 ≤ n ∧ n ≤ 100000
theorem C84 {n : Int} : PFD Tryz.prog 84 [vi .i64 n] (vbl (decide (isN n))) := by
  refine pi1 fn84 ?_
  (repeat' first | (refine Owe.same ?_; first | refine Owe.o ?_ | refine Owe.mk ?_ ?_) | (refine Fork.same ?_; (first | refine fkD ?_ ?_ | refine fkN ?_ ?_ | refine fkM ?_ ?_) <;> intro h) | ((first | refine OpsL.same ?_ | refine OpsDL.same ?_); first | refine pK C69 rfl rfl ?_) | refine MvQ.stay ?_)
  (refine rqK rfl ?_; (repeat' first | exact rfl | (refine qS ?_; constructor)))
theorem C113 {n : Int} : PFD Tryz.prog 113 [vi .i64 n] (vbl (decide (isT n))) := by
  refine pi1 fn113 ?_
  (repeat' first | (refine Owe.same ?_; first | refine Owe.o ?_ | refine Owe.mk ?_ ?_) | (refine Fork.same ?_; (first | refine fkD ?_ ?_ | refine fkN ?_ ?_ | refine fkM ?_ ?_) <;> intro h) | ((first | refine OpsL.same ?_ | refine OpsDL.same ?_); first | refine pK C69 rfl rfl ?_) | refine MvQ.stay ?_)
  (refine rqK rfl ?_; (repeat' first | exact rfl | (refine qS ?_; constructor)))
theorem C115 {n : Int} : PFD Tryz.prog 115 [vi .i64 n] (vbl (decide (isN n))) := by
  refine pi1 fn115 ?_
  (repeat' first | (refine Owe.same ?_; first | refine Owe.o ?_ | refine Owe.mk ?_ ?_) | (refine Fork.same ?_; (first | refine fkD ?_ ?_ | refine fkN ?_ ?_ | refine fkM ?_ ?_) <;> intro h) | ((first | refine OpsL.same ?_ | refine OpsDL.same ?_); first | refine pK C75 rfl rfl ?_) | refine MvQ.stay ?_)
  (refine rqK rfl ?_; (repeat' first | exact rfl | (refine qS ?_; constructor)))
theorem C116 {n : Int} : PFD Tryz.prog 116 [vi .i64 n] (vbl (decide (isT n))) := by
  refine pi1 fn116 ?_
  (repeat' first | (refine Owe.same ?_; first | refine Owe.o ?_ | refine Owe.mk ?_ ?_) | (refine Fork.same ?_; (first | refine fkD ?_ ?_ | refine fkN ?_ ?_ | refine fkM ?_ ?_) <;> intro h) | ((first | refine OpsL.same ?_ | refine OpsDL.same ?_); first | refine pK C75 rfl rfl ?_) | refine MvQ.stay ?_)
  (refine rqK rfl ?_; (repeat' first | exact rfl | (refine qS ?_; constructor)))
/-- The error of a range of ticks. -/
def tksE (lo hi : Int) : Int := fstE [unl (isT lo ∧ isT hi) 2, unl (lo ≤ hi) 9]
theorem unl_of {p : Prop} [Decidable p] {b : Bool} {e : Int} (h : b = decide p) : unb b e = unl p e := by subst h; rfl
theorem C133 {lo hi : Int} : PFD Tryz.prog 133 [.agg [int lo, int hi]] (vi .i64 (tksE lo hi)) := by
  refine pi1 fn133 ?_
  (repeat' first | (refine Owe.same ?_; first | refine Owe.o ?_ | refine Owe.mk ?_ ?_) | (refine Fork.same ?_; (first | refine fkD ?_ ?_ | refine fkN ?_ ?_ | refine fkM ?_ ?_) <;> intro h) | ((first | refine OpsL.same ?_ | refine OpsDL.same ?_); first | refine pK C113 rfl rfl ?_ | refine pK C55 rfl rfl ?_ | refine pK C54 rfl rfl ?_) | refine MvQ.stay ?_)
  · (refine rqK rfl ?_; (repeat' first | exact rfl | (refine qS ?_; constructor)))
    rw [tksE, ← unl_of (decide_eq_decide.2 ⟨fun hh => ⟨h, hh⟩, fun hh => hh.2⟩)]
  · (refine rqK rfl ?_; (repeat' first | exact rfl | (refine qS ?_; constructor)))
    rw [tksE, ← unl_of (decide_eq_false fun hh => h hh.1).symm]
theorem C101 {n : Int} : PFD Tryz.prog 101 [vi .i64 n] (vbl false) := by
  refine pi1 fn101 ?_
  (repeat' first | (refine Owe.same ?_; first | refine Owe.o ?_ | refine Owe.mk ?_ ?_) | (refine Fork.same ?_; (first | refine fkD ?_ ?_ | refine fkN ?_ ?_ | refine fkM ?_ ?_) <;> intro h) | refine MvQ.stay ?_)
  (refine rqK rfl ?_; (repeat' first | exact rfl | (refine qS ?_; constructor)))
  simp
theorem C138 {n : Int} : PFD Tryz.prog 138 [vi .i64 n] (vbl false) := by
  refine pi1 fn138 ?_
  (repeat' first | (refine Owe.same ?_; first | refine Owe.o ?_ | refine Owe.mk ?_ ?_) | (refine Fork.same ?_; (first | refine fkD ?_ ?_ | refine fkN ?_ ?_ | refine fkM ?_ ?_) <;> intro h) | refine MvQ.stay ?_)
  (refine rqK rfl ?_; (repeat' first | exact rfl | (refine qS ?_; constructor)))
  simp
theorem C137 {a b : Int} : PFD Tryz.prog 137 [vi .i64 a, vi .i64 b] (vbl (decide (a < b))) := by
  refine pi1 fn137 ?_
  (repeat' first | (refine Owe.same ?_; first | refine Owe.o ?_ | refine Owe.mk ?_ ?_) | (refine Fork.same ?_; (first | refine fkY ?_ | refine fkF ?_ | ((first | refine fkD ?_ ?_ | refine fkN ?_ ?_ | refine fkM ?_ ?_) <;> intro h))) | ((first | refine OpsL.same ?_ | refine OpsDL.same ?_); first | refine oK C101 rfl rfl rfl ?_) | refine MvQ.stay ?_)
  (refine rqK rfl ?_; (repeat' first | exact rfl | (refine qS ?_; constructor)))
abbrev cmpI (a b : Int) : Int := if a < b then -1 else if b < a then 1 else 0
theorem C61 {a b : Int} : PFD Tryz.prog 61 [vi .i64 a, vi .i64 b] (vi .i64 (cmpI a b)) := by
  refine pi1 fn61 ?_
  (repeat' first | (refine Owe.same ?_; first | refine Owe.o ?_ | refine Owe.mk ?_ ?_) | (refine Fork.same ?_; (first | refine fkY ?_ | refine fkF ?_ | ((first | refine fkD ?_ ?_ | refine fkN ?_ ?_ | refine fkM ?_ ?_) <;> intro h))) | ((first | refine OpsL.same ?_ | refine OpsDL.same ?_); first | refine oK C101 rfl rfl rfl ?_) | refine MvQ.stay ?_)
  · (refine rqK rfl ?_; (repeat' first | exact rfl | (refine qS ?_; constructor))); rw [cmpI, if_pos h]
  · rename_i h1; (refine rqK rfl ?_; (repeat' first | exact rfl | (refine qS ?_; constructor))); rw [cmpI, if_neg h1, if_pos h]
  · rename_i h1; (refine rqK rfl ?_; (repeat' first | exact rfl | (refine qS ?_; constructor))); rw [cmpI, if_neg h1, if_neg h]
theorem C60 {l : List Int} : l.length < 4611686018427387904 → PFD Tryz.prog 60 [.c (ints l)] (vi .i64 (fstE l)) := fun hl => by
  refine pi1 fn60 ?_
  (repeat' first | (refine Owe.same ?_; first | refine Owe.o ?_ | refine Owe.mk ?_ ?_) | (refine Fork.same ?_; (first | refine fkD ?_ ?_ | refine fkN ?_ ?_ | refine fkM ?_ ?_) <;> intro h) | refine MvQ.stay ?_)
  refine Sat.lp0 (fun k : Nat => [(8, vi .i64 k), (7, vi .i64 l.length), (6, .c (ints l)), (3, vi .i64 0)]) (fun k => k ≤ l.length ∧ fstE l = fstE (l.drop k)) (fun k => l.length - k) 0 ⟨Nat.zero_le _, rfl⟩ (by ((first | refine qen ?_ | refine qvs ?_ | refine qeq ?_ | refine qst ?_ | refine qv ?_ | refine qc ?_ | refine qe ?_ | refine qcs ?_ | skip); (repeat' first | exact rfl | (refine qS ?_; constructor)))) ?_
  intro k hk
  (repeat' first | (refine Owe.same ?_; first | refine Owe.o ?_ | refine Owe.mk ?_ ?_) | (refine Fork.same ?_; (first | refine fkD ?_ ?_ | refine fkN ?_ ?_ | refine fkM ?_ ?_) <;> intro h) | refine MvQ.stay ?_)
  · simp only [Int.toNat_natCast] at h
    (refine rqK rfl ?_; (repeat' first | exact rfl | (refine qS ?_; constructor)))
    rw [hk.2, fstE_drop l k (by omega), if_neg h, Int.toNat_natCast]
  · simp only [Int.toNat_natCast] at h
    refine again0 (k + 1) ⟨by omega, ?_⟩ (by omega) (by ((first | refine qen ?_ | refine qvs ?_ | refine qeq ?_ | refine qst ?_ | refine qv ?_ | refine qc ?_ | refine qe ?_ | refine qcs ?_ | skip); (repeat' first | exact rfl | (refine qS ?_; constructor))))
    rw [hk.2, fstE_drop l k (by omega), if_pos h]
  · (refine rqK rfl ?_; (repeat' first | exact rfl | (refine qS ?_; constructor)))
    rw [hk.2, List.drop_of_length_le (by omega)]; rfl
def idxE (n : Int) : Int → List Int → Int
  | _, [] => -1
  | k, x :: l => if n = x then k else idxE n (k + 1) l
theorem idxE_drop (n : Int) (l : List Int) (k : Nat) (h : k < l.length) : idxE n k (l.drop k) = if n = l.getD k 0 then (k : Int) else idxE n ((k + 1 : Nat) : Int) (l.drop (k + 1)) := by
  have e : l.drop k = l.getD k 0 :: l.drop (k + 1) := by
    rw [List.getD_eq_getElem?_getD, List.getElem?_eq_getElem h]; exact List.drop_eq_getElem_cons h
  rw [e, idxE]; rfl
theorem idxE_ge (n : Int) : ∀ (l : List Int) (k : Int), 0 ≤ k → (0 ≤ idxE n k l ↔ n ∈ l)
  | [], k, _ => by simp [idxE]
  | x :: l, k, hk => by
    rw [idxE]
    split
    · rename_i h; subst h; simp [hk]
    · rename_i h; rw [idxE_ge n l (k + 1) (by omega), List.mem_cons]; simp [h]
theorem C120 {l : List Int} {n : Int} : l.length ≤ 1000000 → PFD Tryz.prog 120 [.c (ints l), vi .i64 n] (vi .i64 (idxE n 0 l)) := fun hl => by
  refine pi1 fn120 ?_
  (repeat' first | (refine Owe.same ?_; first | refine Owe.o ?_ | refine Owe.mk ?_ ?_) | (refine Fork.same ?_; (first | refine fkD ?_ ?_ | refine fkN ?_ ?_ | refine fkM ?_ ?_) <;> intro h) | refine MvQ.stay ?_)
  refine Sat.lp0 (fun k : Nat => [(8, vi .i64 k), (7, vi .i64 l.length), (0, .c (ints l)), (1, vi .i64 n)]) (fun k => k ≤ l.length ∧ idxE n 0 l = idxE n k (l.drop k)) (fun k => l.length - k) 0 ⟨Nat.zero_le _, rfl⟩ (by ((first | refine qen ?_ | refine qvs ?_ | refine qeq ?_ | refine qst ?_ | refine qv ?_ | refine qc ?_ | refine qe ?_ | refine qcs ?_ | skip); (repeat' first | exact rfl | (refine qS ?_; constructor)))) ?_
  intro k hk
  (repeat' first | (refine Owe.same ?_; first | refine Owe.o ?_ | refine Owe.mk ?_ ?_) | (refine Fork.same ?_; (first | refine fkD ?_ ?_ | refine fkN ?_ ?_ | refine fkM ?_ ?_) <;> intro h) | refine MvQ.stay ?_)
  · have e := idxE_drop n l k (by omega)
    have h : n = l.getD k 0 := h
    rw [if_pos h, ← hk.2] at e
    (refine rqK rfl ?_; (repeat' first | exact rfl | (refine qS ?_; constructor))); rw [e]
  · have e := idxE_drop n l k (by omega)
    have h : ¬ n = l.getD k 0 := h
    rw [if_neg h, ← hk.2] at e
    exact again0 (k + 1) ⟨by omega, e⟩ (by omega) (by ((first | refine qen ?_ | refine qvs ?_ | refine qeq ?_ | refine qst ?_ | refine qv ?_ | refine qc ?_ | refine qe ?_ | refine qcs ?_ | skip); (repeat' first | exact rfl | (refine qS ?_; constructor))))
  · have e : idxE n 0 l = -1 := by rw [hk.2, List.drop_of_length_le (by omega)]; rfl
    (refine rqK rfl ?_; (repeat' first | exact rfl | (refine qS ?_; constructor))); rw [e]
theorem C96 {l : List Int} {n : Int} : l.length ≤ 1000000 → PFD Tryz.prog 96 [.c (ints l), vi .i64 n] (vbl (decide (n ∈ l))) := fun hl => by
  refine pi1 fn96 ?_
  (repeat' first | (refine Owe.same ?_; first | refine Owe.o ?_ | refine Owe.mk ?_ ?_) | (refine Fork.same ?_; (first | refine fkD ?_ ?_ | refine fkN ?_ ?_ | refine fkM ?_ ?_) <;> intro h) | ((first | refine OpsL.same ?_ | refine OpsDL.same ?_); first | refine pK (C120 hl) rfl rfl ?_) | refine MvQ.stay ?_)
  (refine rqK rfl ?_; (repeat' first | exact rfl | (refine qS ?_; constructor)))
  exact decide_eq_decide.2 (idxE_ge n l 0 (Int.le_refl _))
theorem C20 {l : List Int} {n : Int} : l.length < 4611686018427387904 → PFD Tryz.prog 20 [.c (ints l), vi .i64 n] (vbl (decide (n ∈ l))) := fun hl => by
  refine pi1 fn20 ?_
  (repeat' first | (refine Owe.same ?_; first | refine Owe.o ?_ | refine Owe.mk ?_ ?_) | (refine Fork.same ?_; (first | refine fkD ?_ ?_ | refine fkN ?_ ?_ | refine fkM ?_ ?_) <;> intro h) | refine MvQ.stay ?_)
  refine Sat.lp0 (fun k : Nat => [(5, vi .i64 k), (0, .c (ints l)), (1, vi .i64 n)]) (fun k => k ≤ l.length ∧ ∀ i, i < k → l.getD i 0 ≠ n) (fun k => l.length - k) 0 ⟨Nat.zero_le _, fun i hi => by omega⟩ (by ((first | refine qen ?_ | refine qvs ?_ | refine qeq ?_ | refine qst ?_ | refine qv ?_ | refine qc ?_ | refine qe ?_ | refine qcs ?_ | skip); (repeat' first | exact rfl | (refine qS ?_; constructor)))) ?_
  intro k hk
  (repeat' first | (refine Owe.same ?_; first | refine Owe.o ?_ | refine Owe.mk ?_ ?_) | (refine Fork.same ?_; (first | refine fkD ?_ ?_ | refine fkN ?_ ?_ | refine fkM ?_ ?_) <;> intro h) | refine MvQ.stay ?_)
  · simp only [Int.toNat_natCast] at h
    (refine rqK rfl ?_; (repeat' first | exact rfl | (refine qS ?_; constructor))); simp only [decide_eq_true_eq]; rw [← h, List.getD_eq_getElem?_getD, List.getElem?_eq_getElem (show k < l.length by omega)]; exact List.getElem_mem _
  · simp only [Int.toNat_natCast] at h
    refine again0 (k + 1) ⟨by omega, fun i hi => ?_⟩ (by omega) (by ((first | refine qen ?_ | refine qvs ?_ | refine qeq ?_ | refine qst ?_ | refine qv ?_ | refine qc ?_ | refine qe ?_ | refine qcs ?_ | skip); (repeat' first | exact rfl | (refine qS ?_; constructor))))
    rcases Nat.lt_succ_iff_lt_or_eq.1 hi with h3 | rfl
    · exact hk.2 i h3
    · exact h
  · (refine rqK rfl ?_; (repeat' first | exact rfl | (refine qS ?_; constructor))); simp only [decide_eq_false_iff_not]
    intro hm
    obtain ⟨i, hi, he⟩ := List.getElem_of_mem hm
    refine hk.2 i (by omega) ?_
    rw [List.getD_eq_getElem?_getD, List.getElem?_eq_getElem hi]; exact he
theorem C18 {l m : List Int} : l.length < 4611686018427387904 → PFD Tryz.prog 18 [.c (ints l), .c (ints m)] (vbl (decide (l = m))) := fun hl => by
  refine pi1 fn18 ?_
  (repeat' first | (refine Owe.same ?_; first | refine Owe.o ?_ | refine Owe.mk ?_ ?_) | (refine Fork.same ?_; (first | refine fkD ?_ ?_ | refine fkN ?_ ?_ | refine fkM ?_ ?_) <;> intro h) | refine MvQ.stay ?_)
  · (refine rqK rfl ?_; (repeat' first | exact rfl | (refine qS ?_; constructor))); simp only [decide_eq_false_iff_not]; intro he; subst he; omega
  · have hlm : l.length = m.length := by omega
    clear h
    refine Sat.lp0 (fun k : Nat => [(5, vi .i64 k), (0, .c (ints l)), (1, .c (ints m))]) (fun k => k ≤ l.length ∧ ∀ i, i < k → l.getD i 0 = m.getD i 0) (fun k => l.length - k) 0 ⟨Nat.zero_le _, fun i hi => by omega⟩ (by ((first | refine qen ?_ | refine qvs ?_ | refine qeq ?_ | refine qst ?_ | refine qv ?_ | refine qc ?_ | refine qe ?_ | refine qcs ?_ | skip); (repeat' first | exact rfl | (refine qS ?_; constructor)))) ?_
    intro k hk
    (repeat' first | (refine Owe.same ?_; first | refine Owe.o ?_ | refine Owe.mk ?_ ?_) | (refine Fork.same ?_; (first | refine fkD ?_ ?_ | refine fkN ?_ ?_ | refine fkM ?_ ?_) <;> intro h) | refine MvQ.stay ?_)
    · simp only [Int.toNat_natCast] at h
      (refine rqK rfl ?_; (repeat' first | exact rfl | (refine qS ?_; constructor))); simp only [decide_eq_false_iff_not]; intro he; subst he; exact h rfl
    · simp only [Int.toNat_natCast] at h
      refine again0 (k + 1) ⟨by omega, fun i hi => ?_⟩ (by omega) (by ((first | refine qen ?_ | refine qvs ?_ | refine qeq ?_ | refine qst ?_ | refine qv ?_ | refine qc ?_ | refine qe ?_ | refine qcs ?_ | skip); (repeat' first | exact rfl | (refine qS ?_; constructor))))
      rcases Nat.lt_succ_iff_lt_or_eq.1 hi with h3 | rfl
      · exact hk.2 i h3
      · exact h
    · (refine rqK rfl ?_; (repeat' first | exact rfl | (refine qS ?_; constructor))); simp only [decide_eq_true_eq]; exact ext_getD 0 hlm fun i hi => hk.2 i (by omega)
end Go.Pw

set_option linter.unusedSimpArgs false
set_option linter.unusedVariables false
namespace Go.Pw
set_option maxRecDepth 2000
open Go Go.Proofs A1 A2 A3 A4
def eachN (f : Nat → Int) : Nat → Nat → Int × Int
  | _, 0 => (0, 0)
  | k, m + 1 => if f k = 0 then eachN f (k + 1) m else (k, f k)
theorem eachN_from {f : Nat → Int} {n : Nat} : ∀ {k : Nat}, k ≤ n → (∀ i, i < k → f i = 0) → eachN f 0 n = eachN f k (n - k)
  | 0, _, _ => rfl
  | k + 1, hk, h => by
    rw [eachN_from (k := k) (by omega) fun i hi => h i (by omega), show n - k = (n - (k + 1)) + 1 by omega, eachN, if_pos (h k (by omega))]
theorem eachN_e {f : Nat → Int} {k n : Nat} (hk : k < n) (h : ∀ i, i < k → f i = 0) (hx : ¬ f k = 0) : eachN f 0 n = ((k : Int), f k) := by
  rw [eachN_from (Nat.le_of_lt hk) h, show n - k = (n - k - 1) + 1 by omega, eachN, if_neg hx]
theorem eachN_z {f : Nat → Int} {n : Nat} (h : ∀ i, i < n → f i = 0) : eachN f 0 n = (0, 0) := by
  rw [eachN_from (Nat.le_refl n) h, Nat.sub_self]; rfl
theorem eachN_ok {f : Nat → Int} {n : Nat} : (eachN f 0 n).2 = 0 ↔ ∀ i, i < n → f i = 0 := by
  have : ∀ m k, (eachN f k m).2 = 0 ↔ ∀ i, k ≤ i → i < k + m → f i = 0 := fun m => by
    induction m with
    | zero => intro k; exact ⟨fun _ i h1 h2 => by omega, fun _ => rfl⟩
    | succ m ih =>
      intro k
      rw [eachN]
      split
      · rename_i h; rw [ih]
        refine ⟨fun hh i h1 h2 => ?_, fun hh i h1 h2 => hh i (by omega) (by omega)⟩
        rcases Nat.eq_or_lt_of_le h1 with rfl | h3
        · exact h
        · exact hh i h3 (by omega)
      · rename_i h; exact ⟨fun hh => absurd hh h, fun hh => absurd (hh k (Nat.le_refl _) (by omega)) h⟩
  rw [this]
  exact ⟨fun h i hi => h i (Nat.zero_le _) (by omega), fun h i _ hi => h i (by omega)⟩
theorem succ_all {P : Nat → Prop} {k : Nat} (h : ∀ i, i < k → P i) (hk : P k) : ∀ i, i < k + 1 → P i := fun i hi => by
  rcases Nat.lt_succ_iff_lt_or_eq.1 hi with h3 | rfl
  · exact h i h3
  · exact hk
abbrev lastI (l : List Int) (k : Nat) : Int := if k = 0 then -1 else l.getD (k - 1) 0
abbrev ascN (l : List Int) (b : Int) (i : Nat) : Int := fstE [unl (0 ≤ l.getD i 0 ∧ l.getD i 0 ≤ b - 1) 6, unl (lastI l i < l.getD i 0) 9]
def ascE (l : List Int) (b : Int) : Int × Int := eachN (ascN l b) 0 l.length
theorem C119 {l : List Int} {b : Int} : (l.length ≤ 1000000 ∧ -1000000 ≤ b ∧ b ≤ 1000000) → PFD Tryz.prog 119 [.c (ints l), vi .i64 b] (.tup [vi .i64 (ascE l b).1, vi .i64 (ascE l b).2]) := fun ⟨hl, hb⟩ => by
  obtain ⟨q, hq⟩ : ∃ q, q = ascE l b := ⟨_, rfl⟩
  rw [← hq]
  refine pi2 fn119 ?_
  (repeat' first | (refine Owe.same ?_; first | refine Owe.o ?_ | refine Owe.mk ?_ ?_) | (refine Fork.same ?_; (first | refine fkD ?_ ?_ | refine fkN ?_ ?_ | refine fkM ?_ ?_) <;> intro h) | refine MvQ.stay ?_)
  refine Ops.cs rfl rfl (CallS.of fn94 rfl ?_)
  (repeat' first | (refine Owe.same ?_; first | refine Owe.o ?_ | refine Owe.mk ?_ ?_) | (refine Fork.same ?_; (first | refine fkD ?_ ?_ | refine fkN ?_ ?_ | refine fkM ?_ ?_) <;> intro h) | refine MvQ.stay ?_)
  refine Sat.lp (fun k : Nat => ⟨[(11, vi .i64 k), (10, vi .i64 l.length), (9, .c (ints l)), (1, .c (.fn 136 [0, 1]))], [(1, .box [int (lastI l k)]), (0, .box [int b])], 2⟩) (fun k => k ≤ l.length ∧ ∀ i, i < k → ascN l b i = 0) (fun k => l.length - k) 0 [] ⟨Nat.zero_le _, fun i hi => by omega⟩ ?_ ?_
  · (refine qis ?_ ?_ <;> (repeat' first | exact rfl | (refine qS ?_; constructor)))
  · intro k hk
    refine Fork.dec (fun hlt => ?_) (fun hlt => ?_)
    · have hlt : k < l.length := by omega
      obtain ⟨last, hla⟩ : ∃ x, x = lastI l k := ⟨_, rfl⟩
      rw [← hla]
      (repeat' first | (refine Owe.same ?_; first | refine Owe.o ?_ | refine Owe.mk ?_ ?_) | (refine Fork.same ?_; (first | refine fkD ?_ ?_ | refine fkN ?_ ?_ | refine fkM ?_ ?_) <;> intro h) | refine MvQ.stay ?_)
      refine Ops.cs rfl rfl (CallS.of fn136 rfl ?_)
      (repeat' first | (refine Owe.same ?_; first | refine Owe.o ?_ | refine Owe.mk ?_ ?_) | (refine Fork.same ?_; (first | refine fkD ?_ ?_ | refine fkN ?_ ?_ | refine fkM ?_ ?_) <;> intro h) | ((first | refine OpsL.same ?_ | refine OpsDL.same ?_); first | refine pK C69 rfl rfl ?_ | refine pK C55 rfl rfl ?_ | refine pK C54 rfl rfl ?_) | refine MvQ.stay ?_)
      · have h : ¬ fstE [unl (0 ≤ l.getD k 0 ∧ l.getD k 0 ≤ b - 1) 6, unl (last < l.getD k 0) 9] = 0 := h
        rw [hla] at h
        have e := eachN_e hlt hk.2 h
        rw [ascE, e] at hq
        subst hq
        (refine rqK rfl ?_; (repeat' first | exact rfl | (refine qS ?_; constructor)))
        rw [hla]; rfl
      · have h : fstE [unl (0 ≤ l.getD k 0 ∧ l.getD k 0 ≤ b - 1) 6, unl (last < l.getD k 0) 9] = 0 := h
        rw [hla] at h
        refine again (k + 1) [] ⟨hlt, succ_all hk.2 h⟩ (by omega) ?_
        (refine qis ?_ ?_ <;> (repeat' first | exact rfl | (refine qS ?_; constructor)))
    · (repeat' first | (refine Owe.same ?_; first | refine Owe.o ?_ | refine Owe.mk ?_ ?_) | (refine Fork.same ?_; (first | refine fkD ?_ ?_ | refine fkN ?_ ?_ | refine fkM ?_ ?_) <;> intro h) | refine MvQ.stay ?_)
      have : k = l.length := by omega
      subst this
      rw [ascE, eachN_z hk.2] at hq
      subst hq
      (refine rqK rfl ?_; (repeat' first | exact rfl | (refine qS ?_; constructor)))
theorem C134 {l : List Int} {b : Int} : (l.length ≤ 1000000 ∧ -1000000 ≤ b ∧ b ≤ 1000000) → PFD Tryz.prog 134 [.c (ints l), vi .i64 b] (vi .i64 (ascE l b).2) := fun h => by
  refine pi1 fn134 ?_
  (repeat' first | (refine Owe.same ?_; first | refine Owe.o ?_ | refine Owe.mk ?_ ?_) | (refine Fork.same ?_; (first | refine fkD ?_ ?_ | refine fkN ?_ ?_ | refine fkM ?_ ?_) <;> intro h) | ((first | refine OpsL.same ?_ | refine OpsDL.same ?_); first | refine pK (C119 h) rfl rfl ?_) | refine MvQ.stay ?_)
  (refine rqK rfl ?_; (repeat' first | exact rfl | (refine qS ?_; constructor)))
def anyN (f : Nat → Bool) : Nat → Bool
  | 0 => false
  | k + 1 => anyN f k || f k
theorem anyN_f {f : Nat → Bool} : ∀ {k : Nat}, anyN f k = false ↔ ∀ i, i < k → f i = false
  | 0 => ⟨fun _ i hi => by omega, fun _ => rfl⟩
  | k + 1 => by
    rw [anyN, Bool.or_eq_false_iff, anyN_f]
    exact ⟨fun h => succ_all h.1 h.2, fun h => ⟨fun i hi => h i (by omega), h k (by omega)⟩⟩
theorem anyN_t {f : Nat → Bool} {k n : Nat} (hk : k < n) (h : f k = true) : anyN f n = true := by
  rcases hb : anyN f n with _ | _
  · rw [anyN_f.1 hb k hk] at h; exact h
  · rfl
/-- The first index of a kind, or -1. -/
def idxN (f : Nat → Bool) : Nat → Nat → Int
  | _, 0 => -1
  | k, m + 1 => if f k = true then k else idxN f (k + 1) m
theorem idxN_from {f : Nat → Bool} {n : Nat} : ∀ {k : Nat}, k ≤ n → (∀ i, i < k → f i = false) → idxN f 0 n = idxN f k (n - k)
  | 0, _, _ => rfl
  | k + 1, hk, h => by
    rw [idxN_from (k := k) (by omega) fun i hi => h i (by omega), show n - k = (n - (k + 1)) + 1 by omega, idxN, if_neg (by rw [h k (by omega)]; decide)]
theorem idxN_e {f : Nat → Bool} {k n : Nat} (hk : k < n) (h : ∀ i, i < k → f i = false) (hx : f k = true) : idxN f 0 n = k := by
  rw [idxN_from (Nat.le_of_lt hk) h, show n - k = (n - k - 1) + 1 by omega, idxN, if_pos hx]
theorem idxN_z {f : Nat → Bool} {n : Nat} (h : ∀ i, i < n → f i = false) : idxN f 0 n = -1 := by
  rw [idxN_from (Nat.le_refl n) h, Nat.sub_self]; rfl
theorem anyN_first {f : Nat → Bool} : ∀ {n : Nat}, anyN f n = true → ∃ k, k < n ∧ (∀ i, i < k → f i = false) ∧ f k = true
  | 0, h => by cases h
  | n + 1, h => by
    rcases hb : anyN f n with _ | _
    · rw [anyN, hb, Bool.false_or] at h; exact ⟨n, Nat.lt_succ_self _, anyN_f.1 hb, h⟩
    · obtain ⟨k, h1, h2⟩ := anyN_first hb; exact ⟨k, by omega, h2⟩
theorem idxN_any {f : Nat → Bool} {n : Nat} : decide (idxN f 0 n ≥ 0) = anyN f n := by
  rcases hb : anyN f n with _ | _
  · rw [idxN_z (anyN_f.1 hb)]; rfl
  · obtain ⟨k, h1, h2, h3⟩ := anyN_first hb
    rw [idxN_e h1 h2 h3]; simp
theorem C97 {g : FuncId} {rows : List (List D)} {l : List Int} {f : Nat → Bool} (hg : ∀ i, i < l.length → PFD Tryz.prog g (vi .i64 (l.getD i 0) :: rows.map fun r => .c (.rp r)) (vbl (f i))) : l.length ≤ 1000000 → PFD Tryz.prog 97 [.c (ints l), .c (.fnR g rows)] (vi .i64 (idxN f 0 l.length)) := fun hl => by
  refine pi1 fn97 ?_
  (repeat' first | (refine Owe.same ?_; first | refine Owe.o ?_ | refine Owe.mk ?_ ?_) | (refine Fork.same ?_; (first | refine fkD ?_ ?_ | refine fkN ?_ ?_ | refine fkM ?_ ?_) <;> intro h) | refine MvQ.stay ?_)
  refine Sat.lp0 (fun k : Nat => [(8, vi .i64 k), (7, vi .i64 l.length), (6, .c (ints l)), (0, .c (ints l)), (1, .c (.fnR g rows))]) (fun k => k ≤ l.length ∧ ∀ i, i < k → f i = false) (fun k => l.length - k) 0 ⟨Nat.zero_le _, fun i hi => by omega⟩ (by ((first | refine qen ?_ | refine qvs ?_ | refine qeq ?_ | refine qst ?_ | refine qv ?_ | refine qc ?_ | refine qe ?_ | refine qcs ?_ | skip); (repeat' first | exact rfl | (refine qS ?_; constructor)))) ?_
  intro k hk
  refine Fork.dec (fun hlt => ?_) (fun hlt => ?_)
  · have hlt : k < l.length := by omega
    (repeat' first | (refine Owe.same ?_; first | refine Owe.o ?_ | refine Owe.mk ?_ ?_) | (refine Fork.same ?_; (first | refine fkD ?_ ?_ | refine fkN ?_ ?_ | refine fkM ?_ ?_) <;> intro h) | ((first | refine OpsL.same ?_ | refine OpsDL.same ?_); first | refine pR (hg k hlt) rfl rfl ?_) | refine MvQ.stay ?_)
    · (refine rqK rfl ?_; (repeat' first | exact rfl | (refine qS ?_; constructor))); rw [idxN_e hlt hk.2 h]
    · exact again0 (k + 1) ⟨hlt, succ_all hk.2 h⟩ (by omega) (by ((first | refine qen ?_ | refine qvs ?_ | refine qeq ?_ | refine qst ?_ | refine qv ?_ | refine qc ?_ | refine qe ?_ | refine qcs ?_ | skip); (repeat' first | exact rfl | (refine qS ?_; constructor))))
  · have : k = l.length := by omega
    subst this
    (repeat' first | (refine Owe.same ?_; first | refine Owe.o ?_ | refine Owe.mk ?_ ?_) | (refine Fork.same ?_; (first | refine fkD ?_ ?_ | refine fkN ?_ ?_ | refine fkM ?_ ?_) <;> intro h) | refine MvQ.stay ?_)
    (refine rqK rfl ?_; (repeat' first | exact rfl | (refine qS ?_; constructor))); rw [idxN_z hk.2]
theorem C56 {g : FuncId} {rows : List (List D)} {l : List Int} {f : Nat → Bool} (hg : ∀ i, i < l.length → PFD Tryz.prog g (vi .i64 (l.getD i 0) :: rows.map fun r => .c (.rp r)) (vbl (f i))) : l.length ≤ 1000000 → PFD Tryz.prog 56 [.c (ints l), .c (.fnR g rows)] (vbl (anyN f l.length)) := fun hl => by
  refine pi1 fn56 ?_
  (repeat' first | (refine Owe.same ?_; first | refine Owe.o ?_ | refine Owe.mk ?_ ?_) | (refine Fork.same ?_; (first | refine fkD ?_ ?_ | refine fkN ?_ ?_ | refine fkM ?_ ?_) <;> intro h) | ((first | refine OpsL.same ?_ | refine OpsDL.same ?_); first | refine pK (C97 hg hl) rfl rfl ?_) | refine MvQ.stay ?_)
  (refine rqK rfl ?_; (repeat' first | exact rfl | (refine qS ?_; constructor)))
  exact idxN_any
/-- With a function that was named or bound. -/
theorem C97f {g : FuncId} {l : List Int} {f : Nat → Bool} (hg : ∀ i, i < l.length → PFD Tryz.prog g [vi .i64 (l.getD i 0)] (vbl (f i))) : l.length ≤ 1000000 → PFD Tryz.prog 97 [.c (ints l), .c (.fn g [])] (vi .i64 (idxN f 0 l.length)) := fun hl => by
  refine pi1 fn97 ?_
  (repeat' first | (refine Owe.same ?_; first | refine Owe.o ?_ | refine Owe.mk ?_ ?_) | (refine Fork.same ?_; (first | refine fkD ?_ ?_ | refine fkN ?_ ?_ | refine fkM ?_ ?_) <;> intro h) | refine MvQ.stay ?_)
  refine Sat.lp0 (fun k : Nat => [(8, vi .i64 k), (7, vi .i64 l.length), (6, .c (ints l)), (0, .c (ints l)), (1, .c (.fn g []))]) (fun k => k ≤ l.length ∧ ∀ i, i < k → f i = false) (fun k => l.length - k) 0 ⟨Nat.zero_le _, fun i hi => by omega⟩ (by ((first | refine qen ?_ | refine qvs ?_ | refine qeq ?_ | refine qst ?_ | refine qv ?_ | refine qc ?_ | refine qe ?_ | refine qcs ?_ | skip); (repeat' first | exact rfl | (refine qS ?_; constructor)))) ?_
  intro k hk
  refine Fork.dec (fun hlt => ?_) (fun hlt => ?_)
  · have hlt : k < l.length := by omega
    (repeat' first | (refine Owe.same ?_; first | refine Owe.o ?_ | refine Owe.mk ?_ ?_) | (refine Fork.same ?_; (first | refine fkD ?_ ?_ | refine fkN ?_ ?_ | refine fkM ?_ ?_) <;> intro h) | ((first | refine OpsL.same ?_ | refine OpsDL.same ?_); first | refine pK (hg k hlt) rfl rfl ?_) | refine MvQ.stay ?_)
    · (refine rqK rfl ?_; (repeat' first | exact rfl | (refine qS ?_; constructor))); rw [idxN_e hlt hk.2 h]
    · exact again0 (k + 1) ⟨hlt, succ_all hk.2 h⟩ (by omega) (by ((first | refine qen ?_ | refine qvs ?_ | refine qeq ?_ | refine qst ?_ | refine qv ?_ | refine qc ?_ | refine qe ?_ | refine qcs ?_ | skip); (repeat' first | exact rfl | (refine qS ?_; constructor))))
  · have : k = l.length := by omega
    subst this
    (repeat' first | (refine Owe.same ?_; first | refine Owe.o ?_ | refine Owe.mk ?_ ?_) | (refine Fork.same ?_; (first | refine fkD ?_ ?_ | refine fkN ?_ ?_ | refine fkM ?_ ?_) <;> intro h) | refine MvQ.stay ?_)
    (refine rqK rfl ?_; (repeat' first | exact rfl | (refine qS ?_; constructor))); rw [idxN_z hk.2]
theorem C56f {g : FuncId} {l : List Int} {f : Nat → Bool} (hg : ∀ i, i < l.length → PFD Tryz.prog g [vi .i64 (l.getD i 0)] (vbl (f i))) : l.length ≤ 1000000 → PFD Tryz.prog 56 [.c (ints l), .c (.fn g [])] (vbl (anyN f l.length)) := fun hl => by
  refine pi1 fn56 ?_
  (repeat' first | (refine Owe.same ?_; first | refine Owe.o ?_ | refine Owe.mk ?_ ?_) | (refine Fork.same ?_; (first | refine fkD ?_ ?_ | refine fkN ?_ ?_ | refine fkM ?_ ?_) <;> intro h) | ((first | refine OpsL.same ?_ | refine OpsDL.same ?_); first | refine pK (C97f hg hl) rfl rfl ?_) | refine MvQ.stay ?_)
  (refine rqK rfl ?_; (repeat' first | exact rfl | (refine qS ?_; constructor)))
  exact idxN_any
theorem C97b {g : FuncId} {ds : List D} {l : List Int} {f : Nat → Bool} (hg : ∀ i, i < l.length → PFD Tryz.prog g [.agg (ds.map .d), vi .i64 (l.getD i 0)] (vbl (f i))) : l.length ≤ 1000000 → PFD Tryz.prog 97 [.c (ints l), .c (.fnB g ds)] (vi .i64 (idxN f 0 l.length)) := fun hl => by
  refine pi1 fn97 ?_
  (repeat' first | (refine Owe.same ?_; first | refine Owe.o ?_ | refine Owe.mk ?_ ?_) | (refine Fork.same ?_; (first | refine fkD ?_ ?_ | refine fkN ?_ ?_ | refine fkM ?_ ?_) <;> intro h) | refine MvQ.stay ?_)
  refine Sat.lp0 (fun k : Nat => [(8, vi .i64 k), (7, vi .i64 l.length), (6, .c (ints l)), (0, .c (ints l)), (1, .c (.fnB g ds))]) (fun k => k ≤ l.length ∧ ∀ i, i < k → f i = false) (fun k => l.length - k) 0 ⟨Nat.zero_le _, fun i hi => by omega⟩ (by ((first | refine qen ?_ | refine qvs ?_ | refine qeq ?_ | refine qst ?_ | refine qv ?_ | refine qc ?_ | refine qe ?_ | refine qcs ?_ | skip); (repeat' first | exact rfl | (refine qS ?_; constructor)))) ?_
  intro k hk
  refine Fork.dec (fun hlt => ?_) (fun hlt => ?_)
  · have hlt : k < l.length := by omega
    (repeat' first | (refine Owe.same ?_; first | refine Owe.o ?_ | refine Owe.mk ?_ ?_) | (refine Fork.same ?_; (first | refine fkD ?_ ?_ | refine fkN ?_ ?_ | refine fkM ?_ ?_) <;> intro h) | ((first | refine OpsL.same ?_ | refine OpsDL.same ?_); first | refine pB (hg k hlt) rfl rfl ?_) | refine MvQ.stay ?_)
    · (refine rqK rfl ?_; (repeat' first | exact rfl | (refine qS ?_; constructor))); rw [idxN_e hlt hk.2 h]
    · exact again0 (k + 1) ⟨hlt, succ_all hk.2 h⟩ (by omega) (by ((first | refine qen ?_ | refine qvs ?_ | refine qeq ?_ | refine qst ?_ | refine qv ?_ | refine qc ?_ | refine qe ?_ | refine qcs ?_ | skip); (repeat' first | exact rfl | (refine qS ?_; constructor))))
  · have : k = l.length := by omega
    subst this
    (repeat' first | (refine Owe.same ?_; first | refine Owe.o ?_ | refine Owe.mk ?_ ?_) | (refine Fork.same ?_; (first | refine fkD ?_ ?_ | refine fkN ?_ ?_ | refine fkM ?_ ?_) <;> intro h) | refine MvQ.stay ?_)
    (refine rqK rfl ?_; (repeat' first | exact rfl | (refine qS ?_; constructor))); rw [idxN_z hk.2]
theorem C56b {g : FuncId} {ds : List D} {l : List Int} {f : Nat → Bool} (hg : ∀ i, i < l.length → PFD Tryz.prog g [.agg (ds.map .d), vi .i64 (l.getD i 0)] (vbl (f i))) : l.length ≤ 1000000 → PFD Tryz.prog 56 [.c (ints l), .c (.fnB g ds)] (vbl (anyN f l.length)) := fun hl => by
  refine pi1 fn56 ?_
  (repeat' first | (refine Owe.same ?_; first | refine Owe.o ?_ | refine Owe.mk ?_ ?_) | (refine Fork.same ?_; (first | refine fkD ?_ ?_ | refine fkN ?_ ?_ | refine fkM ?_ ?_) <;> intro h) | ((first | refine OpsL.same ?_ | refine OpsDL.same ?_); first | refine pK (C97b hg hl) rfl rfl ?_) | refine MvQ.stay ?_)
  (refine rqK rfl ?_; (repeat' first | exact rfl | (refine qS ?_; constructor)))
  exact idxN_any
theorem anyN_mem {p : Int → Bool} {l : List Int} : anyN (fun i => p (l.getD i 0)) l.length = l.any p := by
  rw [Bool.eq_iff_iff, List.any_eq_true]
  constructor
  · intro h
    obtain ⟨k, hk, _, h3⟩ := anyN_first h
    refine ⟨l.getD k 0, ?_, h3⟩
    rw [List.getD_eq_getElem?_getD, List.getElem?_eq_getElem hk]; exact List.getElem_mem _
  · rintro ⟨x, hx, hp⟩
    obtain ⟨k, hk, rfl⟩ := List.getElem_of_mem hx
    refine anyN_t hk ?_
    rw [List.getD_eq_getElem?_getD, List.getElem?_eq_getElem hk]; exact hp
/-- Some number is not one of a site. -/
abbrev oddI (l : List Int) : Bool := l.any fun n => !decide (isN n)
theorem C108 {n : Int} : PFD Tryz.prog 108 [vi .i64 n] (vbl (!decide (isN n))) := by
  refine pi1 fn108 ?_
  (repeat' first | (refine Owe.same ?_; first | refine Owe.o ?_ | refine Owe.mk ?_ ?_) | (refine Fork.same ?_; (first | refine fkD ?_ ?_ | refine fkN ?_ ?_ | refine fkM ?_ ?_) <;> intro h) | ((first | refine OpsL.same ?_ | refine OpsDL.same ?_); first | refine pK C84 rfl rfl ?_) | refine MvQ.stay ?_)
  (refine rqK rfl ?_; (repeat' first | exact rfl | (refine qS ?_; constructor)))
theorem C131 {n : Int} : PFD Tryz.prog 131 [vi .i64 n] (vbl (!decide (isN n))) := by
  refine pi1 fn131 ?_
  (repeat' first | (refine Owe.same ?_; first | refine Owe.o ?_ | refine Owe.mk ?_ ?_) | (refine Fork.same ?_; (first | refine fkD ?_ ?_ | refine fkN ?_ ?_ | refine fkM ?_ ?_) <;> intro h) | ((first | refine OpsL.same ?_ | refine OpsDL.same ?_); first | refine pK C84 rfl rfl ?_) | refine MvQ.stay ?_)
  (refine rqK rfl ?_; (repeat' first | exact rfl | (refine qS ?_; constructor)))
theorem C56o {l : List Int} : l.length ≤ 1000000 → PFD Tryz.prog 56 [.c (ints l), .c (.fn 108 [])] (vbl (oddI l)) := fun hl => by
  have := C56f (l := l) (fun i hi => C108 (n := l.getD i 0)) hl
  rwa [anyN_mem (p := fun n => !decide (isN n))] at this
theorem C56o' {l : List Int} : l.length ≤ 1000000 → PFD Tryz.prog 56 [.c (ints l), .c (.fn 131 [])] (vbl (oddI l)) := fun hl => by
  have := C56f (l := l) (fun i hi => C131 (n := l.getD i 0)) hl
  rwa [anyN_mem (p := fun n => !decide (isN n))] at this
abbrev nmI (s : ByteArray) (i : Nat) : Int := ((s.data.toList.getD i 0).toNat : Int)
abbrev chP (c : Int) (i : Nat) : Prop := ((97 ≤ c ∧ c ≤ 122) ∨ (65 ≤ c ∧ c ≤ 90)) ∨ ((i : Int) ≠ 0 ∧ (c = 45 ∨ (48 ≤ c ∧ c ≤ 57)))
abbrev nmP (s : ByteArray) : Prop := (∀ i, i < s.size → chP (nmI s i) i) ∧ 1 ≤ (s.size : Int) ∧ (s.size : Int) ≤ 12
abbrev str (s : ByteArray) : C := .d (.v (.string s))
theorem C132 {s : ByteArray} : s.size ≤ 1000000 → PFD Tryz.prog 132 [.c (str s)] (vbl (decide (nmP s))) := fun hs => by
  refine pi1 fn132 ?_
  (repeat' first | (refine Owe.same ?_; first | refine Owe.o ?_ | refine Owe.mk ?_ ?_) | (refine Fork.same ?_; (first | refine fkD ?_ ?_ | refine fkN ?_ ?_ | refine fkM ?_ ?_) <;> intro h) | refine MvQ.stay ?_)
  refine Sat.lp0 (fun k : Nat => [(8, vi .i64 k), (7, vi .i64 s.size), (0, .c (str s))]) (fun k => k ≤ s.size ∧ ∀ i, i < k → chP (nmI s i) i) (fun k => s.size - k) 0 ⟨Nat.zero_le _, fun i hi => by omega⟩ (by ((first | refine qen ?_ | refine qvs ?_ | refine qeq ?_ | refine qst ?_ | refine qv ?_ | refine qc ?_ | refine qe ?_ | refine qcs ?_ | skip); (repeat' first | exact rfl | (refine qS ?_; constructor)))) ?_
  intro k hk
  refine Fork.dec (fun hlt => ?_) (fun hlt => ?_)
  · have hlt : k < s.size := by omega
    have cont : chP (nmI s k) k → ∀ i, i < k + 1 → chP (nmI s i) i := fun h => succ_all hk.2 h
    have stop : ¬ chP (nmI s k) k → decide (nmP s) = false := fun h => by
      rw [decide_eq_false_iff_not]; exact fun hh => h (hh.1 k hlt)
    (repeat' first | (refine Owe.same ?_; first | refine Owe.o ?_ | refine Owe.mk ?_ ?_) | (refine Fork.same ?_; (first | refine fkD ?_ ?_ | refine fkN ?_ ?_ | refine fkM ?_ ?_) <;> intro h) | refine MvQ.stay ?_)
    all_goals simp only [Int.toNat_natCast] at *
    all_goals first
      | refine again0 (k + 1) ⟨hlt, cont (by simp only [chP, nmI]; omega)⟩ (by omega) (by ((first | refine qen ?_ | refine qvs ?_ | refine qeq ?_ | refine qst ?_ | refine qv ?_ | refine qc ?_ | refine qe ?_ | refine qcs ?_ | skip); (repeat' first | exact rfl | (refine qS ?_; constructor))))
      | (refine rqK rfl ?_; (repeat' first | exact rfl | (refine qS ?_; constructor))); exact stop (by simp only [chP, nmI]; omega)
  · have : k = s.size := by omega
    subst this
    (repeat' first | (refine Owe.same ?_; first | refine Owe.o ?_ | refine Owe.mk ?_ ?_) | (refine Fork.same ?_; (first | refine fkD ?_ ?_ | refine fkN ?_ ?_ | refine fkM ?_ ?_) <;> intro h) | ((first | refine OpsL.same ?_ | refine OpsDL.same ?_); first | refine pK C69 rfl rfl ?_) | refine MvQ.stay ?_)
    (refine rqK rfl ?_; (repeat' first | exact rfl | (refine qS ?_; constructor)))
    exact decide_eq_decide.2 ⟨fun h => ⟨hk.2, h⟩, fun h => h.2⟩
theorem C135 {s : ByteArray} : s.size ≤ 1000000 → PFD Tryz.prog 135 [.c (str s)] (vbl (decide (nmP s))) := fun hs => by
  refine pi1 fn135 ?_
  by_cases hz : 1 ≤ (s.size : Int) ∧ (s.size : Int) ≤ 12
  · (repeat' first | (refine Owe.same ?_; first | refine Owe.o ?_ | refine Owe.mk ?_ ?_) | (refine Fork.same ?_; (first | refine fkY ?_ | refine fkF ?_ | ((first | refine fkD ?_ ?_ | refine fkN ?_ ?_ | refine fkM ?_ ?_) <;> intro h))) | ((first | refine OpsL.same ?_ | refine OpsDL.same ?_); first | refine oK C69 rfl rfl rfl ?_) | refine MvQ.stay ?_)
    refine Sat.lp0 (fun k : Nat => [(3, vi .i64 k), (0, .c (str s))]) (fun k => k ≤ s.size ∧ ∀ i, i < k → chP (nmI s i) i) (fun k => s.size - k) 0 ⟨Nat.zero_le _, fun i hi => by omega⟩ (by ((first | refine qen ?_ | refine qvs ?_ | refine qeq ?_ | refine qst ?_ | refine qv ?_ | refine qc ?_ | refine qe ?_ | refine qcs ?_ | skip); (repeat' first | exact rfl | (refine qS ?_; constructor)))) ?_
    intro k hk
    refine Fork.dec (fun hlt => ?_) (fun hlt => ?_)
    · have hlt : k < s.size := by omega
      have cont : chP (nmI s k) k → ∀ i, i < k + 1 → chP (nmI s i) i := fun h => succ_all hk.2 h
      have stop : ¬ chP (nmI s k) k → decide (nmP s) = false := fun h => by
        rw [decide_eq_false_iff_not]; exact fun hh => h (hh.1 k hlt)
      (repeat' first | (refine Owe.same ?_; first | refine Owe.o ?_ | refine Owe.mk ?_ ?_) | (refine Fork.same ?_; (first | refine fkD ?_ ?_ | refine fkN ?_ ?_ | refine fkM ?_ ?_) <;> intro h) | refine MvQ.stay ?_)
      all_goals simp only [Int.toNat_natCast] at *
      all_goals first
        | refine again0 (k + 1) ⟨hlt, cont (by simp only [chP, nmI]; omega)⟩ (by omega) (by ((first | refine qen ?_ | refine qvs ?_ | refine qeq ?_ | refine qst ?_ | refine qv ?_ | refine qc ?_ | refine qe ?_ | refine qcs ?_ | skip); (repeat' first | exact rfl | (refine qS ?_; constructor))))
        | (refine rqK rfl ?_; (repeat' first | exact rfl | (refine qS ?_; constructor))); exact stop (by simp only [chP, nmI]; omega)
    · have : k = s.size := by omega
      subst this
      (repeat' first | (refine Owe.same ?_; first | refine Owe.o ?_ | refine Owe.mk ?_ ?_) | (refine Fork.same ?_; (first | refine fkD ?_ ?_ | refine fkN ?_ ?_ | refine fkM ?_ ?_) <;> intro h) | refine MvQ.stay ?_)
      (refine rqK rfl ?_; (repeat' first | exact rfl | (refine qS ?_; constructor)))
      exact decide_eq_true ⟨hk.2, hz⟩
  · have hf : decide (nmP s) = false := decide_eq_false fun h => hz h.2
    (repeat' first | (refine Owe.same ?_; first | refine Owe.o ?_ | refine Owe.mk ?_ ?_) | (refine Fork.same ?_; (first | refine fkY ?_ | refine fkF ?_ | ((first | refine fkD ?_ ?_ | refine fkN ?_ ?_ | refine fkM ?_ ?_) <;> intro h))) | ((first | refine OpsL.same ?_ | refine OpsDL.same ?_); first | refine oK C69 rfl rfl rfl ?_) | refine MvQ.stay ?_)
    all_goals first | ((refine rqK rfl ?_; (repeat' first | exact rfl | (refine qS ?_; constructor))); exact hf.symm) | ((refine rqK rfl ?_; (repeat' first | exact rfl | (refine qS ?_; constructor))); exact hf)
/-- A task: its name, its numbers, its ticks, what must be done before. -/
structure Tk where
  n : ByteArray
  p : Int
  d : Int
  w : Int
  o : Int
  v : Int
  lo : Int
  hi : Int
  a : List Int
abbrev intsD (l : List Int) : D := .sl 1 l.length fun i => r1 (l.getD i 0)
abbrev tkr (t : Tk) : List D := [.v (.string t.n), dI t.p, dI t.d, dI t.w, dI t.o, dI t.v, dI t.lo, dI t.hi, intsD t.a]
abbrev tk0 : Tk := ⟨ByteArray.empty, 0, 0, 0, 0, 0, 0, 0, []⟩
abbrev tkv (t : Tk) : V := .agg [str t.n, int t.p, int t.d, int t.w, int t.o, int t.v, int t.lo, int t.hi, ints t.a]
abbrev tks (l : List Tk) : C := slv 9 tkr tk0 l
abbrev tksD (l : List Tk) : D := .sl 9 l.length fun i => tkr (l.getD i tk0)
theorem C130 {t : Tk} {s : ByteArray} {r : List D} : PFD Tryz.prog 130 [tkv t, .c (.rp (.v (.string s) :: r))] (vbl (decide (t.n.data.toList = s.data.toList))) := by
  refine pi1 fn130 ?_
  (repeat' first | (refine Owe.same ?_; first | refine Owe.o ?_ | refine Owe.mk ?_ ?_) | (refine Fork.same ?_; (first | refine fkD ?_ ?_ | refine fkN ?_ ?_ | refine fkM ?_ ?_) <;> intro h) | refine MvQ.stay ?_)
  (refine rqK rfl ?_; (repeat' first | exact rfl | (refine qS ?_; constructor)))
theorem C141 {g : FuncId} {rows : List (List D)} {l : List Tk} {n : Nat} {f : Nat → Bool} (hg : ∀ i, i < n → PFD Tryz.prog g (tkv (l.getD i tk0) :: rows.map fun r => .c (.rp r)) (vbl (f i))) : n ≤ 1000000 → PFD Tryz.prog 141 [.c (.d (.sl 9 n fun i => tkr (l.getD i tk0))), .c (.fnR g rows)] (vi .i64 (idxN f 0 n)) := fun hl => by
  refine pi1 fn141 ?_
  (repeat' first | (refine Owe.same ?_; first | refine Owe.o ?_ | refine Owe.mk ?_ ?_) | (refine Fork.same ?_; (first | refine fkD ?_ ?_ | refine fkN ?_ ?_ | refine fkM ?_ ?_) <;> intro h) | refine MvQ.stay ?_)
  refine Sat.lp0 (fun k : Nat => [(8, vi .i64 k), (7, vi .i64 n), (6, .c (.d (.sl 9 n fun i => tkr (l.getD i tk0)))), (0, .c (.d (.sl 9 n fun i => tkr (l.getD i tk0)))), (1, .c (.fnR g rows))]) (fun k => k ≤ n ∧ ∀ i, i < k → f i = false) (fun k => n - k) 0 ⟨Nat.zero_le _, fun i hi => by omega⟩ (by ((first | refine qen ?_ | refine qvs ?_ | refine qeq ?_ | refine qst ?_ | refine qv ?_ | refine qc ?_ | refine qe ?_ | refine qcs ?_ | skip); (repeat' first | exact rfl | (refine qS ?_; constructor)))) ?_
  intro k hk
  refine Fork.dec (fun hlt => ?_) (fun hlt => ?_)
  · have hlt : k < n := by omega
    (repeat' first | (refine Owe.same ?_; first | refine Owe.o ?_ | refine Owe.mk ?_ ?_) | (refine Fork.same ?_; (first | refine fkD ?_ ?_ | refine fkN ?_ ?_ | refine fkM ?_ ?_) <;> intro h) | ((first | refine OpsL.same ?_ | refine OpsDL.same ?_); first | refine pR (hg k hlt) rfl rfl ?_) | refine MvQ.stay ?_)
    · (refine rqK rfl ?_; (repeat' first | exact rfl | (refine qS ?_; constructor))); rw [idxN_e hlt hk.2 h]
    · exact again0 (k + 1) ⟨hlt, succ_all hk.2 h⟩ (by omega) (by ((first | refine qen ?_ | refine qvs ?_ | refine qeq ?_ | refine qst ?_ | refine qv ?_ | refine qc ?_ | refine qe ?_ | refine qcs ?_ | skip); (repeat' first | exact rfl | (refine qS ?_; constructor))))
  · have : k = n := by omega
    subst this
    (repeat' first | (refine Owe.same ?_; first | refine Owe.o ?_ | refine Owe.mk ?_ ?_) | (refine Fork.same ?_; (first | refine fkD ?_ ?_ | refine fkN ?_ ?_ | refine fkM ?_ ?_) <;> intro h) | refine MvQ.stay ?_)
    (refine rqK rfl ?_; (repeat' first | exact rfl | (refine qS ?_; constructor))); rw [idxN_z hk.2]
theorem C129 {g : FuncId} {rows : List (List D)} {l : List Tk} {n : Nat} {f : Nat → Bool} (hg : ∀ i, i < n → PFD Tryz.prog g (tkv (l.getD i tk0) :: rows.map fun r => .c (.rp r)) (vbl (f i))) : n ≤ 1000000 → PFD Tryz.prog 129 [.c (.d (.sl 9 n fun i => tkr (l.getD i tk0))), .c (.fnR g rows)] (vbl (anyN f n)) := fun hl => by
  refine pi1 fn129 ?_
  (repeat' first | (refine Owe.same ?_; first | refine Owe.o ?_ | refine Owe.mk ?_ ?_) | (refine Fork.same ?_; (first | refine fkD ?_ ?_ | refine fkN ?_ ?_ | refine fkM ?_ ?_) <;> intro h) | ((first | refine OpsL.same ?_ | refine OpsDL.same ?_); first | refine pK (C141 hg hl) rfl rfl ?_) | refine MvQ.stay ?_)
  (refine rqK rfl ?_; (repeat' first | exact rfl | (refine qS ?_; constructor)))
  exact idxN_any
theorem C109 {g : FuncId} {rows : List (List D)} {l : List Tk} {f : Nat → Int} (hg : ∀ i, i < l.length → PFD Tryz.prog g (vi .i64 i :: tkv (l.getD i tk0) :: rows.map fun r => .c (.rp r)) (vi .i64 (f i))) : l.length ≤ 1000000 → PFD Tryz.prog 109 [.c (tks l), .c (.fnR g rows)] (.tup [vi .i64 (eachN f 0 l.length).1, vi .i64 (eachN f 0 l.length).2]) := fun hl => by
  refine pi2 fn109 ?_
  (repeat' first | (refine Owe.same ?_; first | refine Owe.o ?_ | refine Owe.mk ?_ ?_) | (refine Fork.same ?_; (first | refine fkD ?_ ?_ | refine fkN ?_ ?_ | refine fkM ?_ ?_) <;> intro h) | refine MvQ.stay ?_)
  refine Sat.lp0 (fun k : Nat => [(11, vi .i64 k), (10, vi .i64 l.length), (9, .c (tks l)), (1, .c (.fnR g rows))]) (fun k => k ≤ l.length ∧ ∀ i, i < k → f i = 0) (fun k => l.length - k) 0 ⟨Nat.zero_le _, fun i hi => by omega⟩ (by ((first | refine qen ?_ | refine qvs ?_ | refine qeq ?_ | refine qst ?_ | refine qv ?_ | refine qc ?_ | refine qe ?_ | refine qcs ?_ | skip); (repeat' first | exact rfl | (refine qS ?_; constructor)))) ?_
  intro k hk
  refine Fork.dec (fun hlt => ?_) (fun hlt => ?_)
  · have hlt : k < l.length := by omega
    (repeat' first | (refine Owe.same ?_; first | refine Owe.o ?_ | refine Owe.mk ?_ ?_) | (refine Fork.same ?_; (first | refine fkD ?_ ?_ | refine fkN ?_ ?_ | refine fkM ?_ ?_) <;> intro h) | ((first | refine OpsL.same ?_ | refine OpsDL.same ?_); first | refine pR (hg k hlt) rfl rfl ?_) | refine MvQ.stay ?_)
    · have e := eachN_e hlt hk.2 h
      (refine rqK rfl ?_; (repeat' first | exact rfl | (refine qS ?_; constructor))) <;> rw [e]
    · exact again0 (k + 1) ⟨hlt, succ_all hk.2 h⟩ (by omega) (by ((first | refine qen ?_ | refine qvs ?_ | refine qeq ?_ | refine qst ?_ | refine qv ?_ | refine qc ?_ | refine qe ?_ | refine qcs ?_ | skip); (repeat' first | exact rfl | (refine qS ?_; constructor))))
  · have : k = l.length := by omega
    subst this
    have e := eachN_z hk.2
    (repeat' first | (refine Owe.same ?_; first | refine Owe.o ?_ | refine Owe.mk ?_ ?_) | (refine Fork.same ?_; (first | refine fkD ?_ ?_ | refine fkN ?_ ?_ | refine fkM ?_ ?_) <;> intro h) | refine MvQ.stay ?_)
    (refine rqK rfl ?_; (repeat' first | exact rfl | (refine qS ?_; constructor))) <;> rw [e]
/-- The error of a task among tasks. -/
abbrev knB (l : List Tk) (k : Nat) (s : ByteArray) : Bool := anyN (fun i => decide ((l.getD i tk0).n.data.toList = s.data.toList)) k
abbrev tkF (l : List Tk) (k : Nat) (t : Tk) : Int := fstE [unl (nmP t.n) 4, unb (!knB l k t.n) 5, unb (decide (0 ≤ t.p ∧ t.p ≤ 4) && !oddI [t.d, t.w, t.o, t.v]) 2, tksE t.lo t.hi]
def tkE (l : List Tk) (k : Nat) : Int := if tkF l k (l.getD k tk0) = 0 then (ascE (l.getD k tk0).a k).2 else tkF l k (l.getD k tk0)
/-- The sizes of tasks' names and lists. -/
abbrev TkSm (l : List Tk) : Prop := ∀ i, i < l.length → (l.getD i tk0).n.size ≤ 1000000 ∧ (l.getD i tk0).a.length ≤ 1000000
theorem C128 {l : List Tk} {k : Nat} {r : List D} : (k < l.length ∧ l.length ≤ 1000000 ∧ TkSm l) → PFD Tryz.prog 128 [vi .i64 k, tkv (l.getD k tk0), .c (.rp (tksD l :: r))] (vi .i64 (tkE l k)) := fun ⟨hk, hl, hs⟩ => by
  obtain ⟨s1, s2⟩ := hs k hk
  obtain ⟨q, hq⟩ : ∃ q, q = tkE l k := ⟨_, rfl⟩
  have c1 := C129 (g := 130) (rows := [tkr (l.getD k tk0)]) (l := l) (n := k) (fun i hi => C130 (t := l.getD i tk0) (s := (l.getD k tk0).n)) (by omega)
  rw [← hq]
  rw [tkE] at hq
  obtain ⟨t, ht⟩ : ∃ t, t = l.getD k tk0 := ⟨_, rfl⟩
  rw [← ht] at s1 s2 hq c1 ⊢
  have c2 := C56o' (l := [t.d, t.w, t.o, t.v]) (by simp)
  have c3 := C134 (l := t.a) (b := k) ⟨s2, by omega⟩
  refine pi1 fn128 ?_
  (repeat' first | (refine Owe.same ?_; first | refine Owe.o ?_ | refine Owe.mk ?_ ?_) | (refine Fork.same ?_; (first | refine fkD ?_ ?_ | refine fkN ?_ ?_ | refine fkM ?_ ?_) <;> intro h) | ((first | refine OpsL.same ?_ | refine OpsDL.same ?_); first | refine pK c1 rfl rfl ?_ | refine pK c2 rfl rfl ?_ | refine pK (C132 s1) rfl rfl ?_ | refine pK C55 rfl rfl ?_ | refine pK C69 rfl rfl ?_ | refine pK C133 rfl rfl ?_ | refine pK C54 rfl rfl ?_ | refine pK c3 rfl rfl ?_) | refine MvQ.stay ?_)
  · rename_i hp
    have e : tkF l k t = fstE [unl (nmP t.n) 4, unb (!knB l k t.n) 5, unb (!oddI [t.d, t.w, t.o, t.v]) 2, tksE t.lo t.hi] := by rw [tkF, decide_eq_true hp, Bool.true_and]
    have h : ¬ fstE [unl (nmP t.n) 4, unb (!knB l k t.n) 5, unb (!oddI [t.d, t.w, t.o, t.v]) 2, tksE t.lo t.hi] = 0 := h
    rw [e, if_neg h] at hq
    (refine rqK rfl ?_; (repeat' first | exact rfl | (refine qS ?_; constructor))); exact hq.symm
  · rename_i hp
    have e : tkF l k t = fstE [unl (nmP t.n) 4, unb (!knB l k t.n) 5, unb (!oddI [t.d, t.w, t.o, t.v]) 2, tksE t.lo t.hi] := by rw [tkF, decide_eq_true hp, Bool.true_and]
    have h : fstE [unl (nmP t.n) 4, unb (!knB l k t.n) 5, unb (!oddI [t.d, t.w, t.o, t.v]) 2, tksE t.lo t.hi] = 0 := h
    rw [e, if_pos h] at hq
    (repeat' first | (refine Owe.same ?_; first | refine Owe.o ?_ | refine Owe.mk ?_ ?_) | (refine Fork.same ?_; (first | refine fkD ?_ ?_ | refine fkN ?_ ?_ | refine fkM ?_ ?_) <;> intro h) | refine MvQ.stay ?_)
    (refine rqK rfl ?_; (repeat' first | exact rfl | (refine qS ?_; constructor))); exact hq.symm
  · rename_i hp
    have e : tkF l k t = fstE [unl (nmP t.n) 4, unb (!knB l k t.n) 5, unb false 2, tksE t.lo t.hi] := by rw [tkF, decide_eq_false hp, Bool.false_and]
    have h : ¬ fstE [unl (nmP t.n) 4, unb (!knB l k t.n) 5, unb false 2, tksE t.lo t.hi] = 0 := h
    rw [e, if_neg h] at hq
    (refine rqK rfl ?_; (repeat' first | exact rfl | (refine qS ?_; constructor))); exact hq.symm
  · rename_i hp
    have e : tkF l k t = fstE [unl (nmP t.n) 4, unb (!knB l k t.n) 5, unb false 2, tksE t.lo t.hi] := by rw [tkF, decide_eq_false hp, Bool.false_and]
    have h : fstE [unl (nmP t.n) 4, unb (!knB l k t.n) 5, unb false 2, tksE t.lo t.hi] = 0 := h
    rw [e, if_pos h] at hq
    (repeat' first | (refine Owe.same ?_; first | refine Owe.o ?_ | refine Owe.mk ?_ ?_) | (refine Fork.same ?_; (first | refine fkD ?_ ?_ | refine fkN ?_ ?_ | refine fkM ?_ ?_) <;> intro h) | refine MvQ.stay ?_)
    (refine rqK rfl ?_; (repeat' first | exact rfl | (refine qS ?_; constructor))); exact hq.symm
/-- The error of tasks, with an index. -/
def tsE (l : List Tk) : Int × Int := if 6 < (l.length : Int) then (0, 8) else eachN (tkE l) 0 l.length
theorem C106 {l : List Tk} : (l.length ≤ 1000000 ∧ TkSm l) → PFD Tryz.prog 106 [.c (tks l)] (.tup [vi .i64 (tsE l).1, vi .i64 (tsE l).2]) := fun ⟨hl, hs⟩ => by
  obtain ⟨q, hq⟩ : ∃ q, q = tsE l := ⟨_, rfl⟩
  rw [← hq]
  rw [tsE] at hq
  have c1 := C109 (g := 128) (rows := [[tksD l]]) (fun i hi => C128 (r := []) ⟨hi, hl, hs⟩) hl
  refine pi2 fn106 ?_
  (repeat' first | (refine Owe.same ?_; first | refine Owe.o ?_ | refine Owe.mk ?_ ?_) | (refine Fork.same ?_; (first | refine fkD ?_ ?_ | refine fkN ?_ ?_ | refine fkM ?_ ?_) <;> intro h) | ((first | refine OpsL.same ?_ | refine OpsDL.same ?_); first | refine pK c1 rfl rfl ?_) | refine MvQ.stay ?_)
  · rw [if_pos h] at hq; subst hq; (refine rqK rfl ?_; (repeat' first | exact rfl | (refine qS ?_; constructor)))
  · rw [if_neg h] at hq; subst hq; (refine rqK rfl ?_; (repeat' first | exact rfl | (refine qS ?_; constructor)))
end Go.Pw

set_option linter.unusedSimpArgs false
set_option linter.unusedVariables false
set_option maxHeartbeats 2000000
namespace Go.Pw
set_option maxRecDepth 2000
open Go Go.Proofs A1 A2 A3 A4
structure Si where
  tk : List Tk
  tr : List (List Int)
  ho : List Int
  ti : List (Int × Int × Int)
  idle : Int
  swim : Int
  res : Int
  fin : Int
structure St8 where
  p : Int
  t : Int
  w : Int
  o : Int
  d : List Int
abbrev rwsD (l : List (List Int)) : D := .sl 1 l.length fun i => [intsD (l.getD i [])]
abbrev trsD (l : List (Int × Int × Int)) : D := .sl 3 l.length fun i => r3 (l.getD i (0, 0, 0))
abbrev siD (s : Si) : List D := [tksD s.tk, rwsD s.tr, intsD s.ho, trsD s.ti, dI s.idle, dI s.swim, dI s.res, dI s.fin]
abbrev siC (s : Si) : List C := [.d (tksD s.tk), .d (rwsD s.tr), ints s.ho, trs s.ti, int s.idle, int s.swim, int s.res, int s.fin]
abbrev siv (s : Si) : V := .agg (siC s)
abbrev stD (s : St8) : List D := [dI s.p, dI s.t, dI s.w, dI s.o, intsD s.d]
abbrev stC8 (s : St8) : List C := [int s.p, int s.t, int s.w, int s.o, ints s.d]
abbrev stv (s : St8) : V := .agg (stC8 s)
abbrev hoE (s : Si) : Int := fstE [unl ((s.ho.length : Int) > 0) 10, unl ((s.ho.length : Int) ≤ 5) 8, unl ((s.tr.length : Int) = s.ho.length) 10]
abbrev hmB (s : Si) (i : Nat) : Bool := !oddI (s.tr.getD i []) && (decide (((s.tr.getD i []).length : Int) ≤ i) || decide ((s.tr.getD i []).getD i 0 = 0))
abbrev hmN (s : Si) (i : Nat) : Int := fstE [unl (isN (s.ho.getD i 0)) 2, unl (((s.tr.getD i []).length : Int) = s.ho.length) 10, unb (hmB s i) 2]
abbrev plN (s : Si) (i : Nat) : Int := unl ((s.tk.getD i tk0).p < s.ho.length) 6
abbrev lastT (s : Si) (k : Nat) : Int := if k = 0 then -1 else (s.ti.getD (k - 1) (0, 0, 0)).2.1
abbrev tiF (x : Int × Int × Int) (last : Int) : Int := fstE [unl ((isT x.1 ∧ isT x.2.1) ∧ isN x.2.2) 2, unl (x.1 ≤ x.2.1 ∧ last < x.1) 9]
abbrev tiN (s : Si) (i : Nat) : Int := tiF (s.ti.getD i (0, 0, 0)) (lastT s i)
abbrev enE (s : Si) : Int := unl (((isN s.idle ∧ isN s.swim) ∧ isN s.res) ∧ isT s.fin) 2
def siE (s : Si) : Int × Int :=
  if (tsE s.tk).2 = 0 then
    if hoE s = 0 then
      if (eachN (hmN s) 0 s.ho.length).2 = 0 then
        if (eachN (plN s) 0 s.tk.length).2 = 0 then
          if (s.ti.length : Int) > 6 then (0, 8) else
          if (eachN (tiN s) 0 s.ti.length).2 = 0 then (0, enE s) else eachN (tiN s) 0 s.ti.length
        else eachN (plN s) 0 s.tk.length
      else eachN (hmN s) 0 s.ho.length
    else (0, hoE s)
  else tsE s.tk
/-- The sizes of a site's slices. -/
structure SiSm (s : Si) : Prop where
  tk : s.tk.length ≤ 1000000
  t : TkSm s.tk
  tr : s.tr.length ≤ 1000000
  r : ∀ i, i < s.tr.length → (s.tr.getD i []).length ≤ 1000000
  ho : s.ho.length ≤ 1000000
  ti : s.ti.length ≤ 1000000
theorem unb_of {b c : Bool} {e : Int} (h : b = c) : unb b e = unb c e := by rw [h]
theorem tiF_of {x : Int × Int × Int} {last : Int} {b1 b2 : Bool} (h1 : b1 = decide ((isT x.1 ∧ isT x.2.1) ∧ isN x.2.2)) (h2 : b2 = decide (x.1 ≤ x.2.1 ∧ last < x.1)) : fstE [unb b1 2, unb b2 9] = tiF x last := by subst h1; subst h2; rfl
theorem tiF_h {x : Int × Int × Int} {last : Int} {b1 b2 : Bool} {P : Int → Prop} (h : P (fstE [unb b1 2, unb b2 9])) (h1 : b1 = decide ((isT x.1 ∧ isT x.2.1) ∧ isN x.2.2)) (h2 : b2 = decide (x.1 ≤ x.2.1 ∧ last < x.1)) : P (tiF x last) := tiF_of h1 h2 ▸ h
theorem hmN_of {s : Si} {i : Nat} {b : Bool} (h1 : b = hmB s i) : fstE [unl (isN (s.ho.getD i 0)) 2, unl (((s.tr.getD i []).length : Int) = s.ho.length) 10, unb b 2] = hmN s i := by subst h1; rfl
theorem hmN_h {s : Si} {i : Nat} {b : Bool} {P : Int → Prop} (h : P (fstE [unl (isN (s.ho.getD i 0)) 2, unl (((s.tr.getD i []).length : Int) = s.ho.length) 10, unb b 2])) (h1 : b = hmB s i) : P (hmN s i) := hmN_of h1 ▸ h
theorem C73 {s : Si} : SiSm s → PFD Tryz.prog 73 [siv s] (.tup [vi .i64 (siE s).1, vi .i64 (siE s).2]) := fun hs => by
  obtain ⟨stk, st, str, sr, sho, sti⟩ := hs
  obtain ⟨q, hq⟩ : ∃ q, q = siE s := ⟨_, rfl⟩
  rw [← hq]
  rw [siE] at hq
  have c1 := C106 (l := s.tk) ⟨stk, st⟩
  refine pi2 fn73 ?_
  (repeat' first | (refine Owe.same ?_; first | refine Owe.o ?_ | refine Owe.mk ?_ ?_) | (refine Fork.same ?_; (first | refine fkD ?_ ?_ | refine fkN ?_ ?_ | refine fkM ?_ ?_) <;> intro h) | ((first | refine OpsL.same ?_ | refine OpsDL.same ?_); first | refine pK c1 rfl rfl ?_ | refine pK C55 rfl rfl ?_ | refine pK C54 rfl rfl ?_) | refine MvQ.stay ?_)
  · rw [if_neg h] at hq; subst hq; (refine rqK rfl ?_; (repeat' first | exact rfl | (refine qS ?_; constructor)))
  · rename_i h0
    have h : ¬ hoE s = 0 := h
    rw [if_pos h0, if_neg h] at hq; subst hq; (refine rqK rfl ?_; (repeat' first | exact rfl | (refine qS ?_; constructor)))
  · rename_i h0
    have h1 : hoE s = 0 := h
    rw [if_pos h0, if_pos h1] at hq
    have hb := fstE_ok.1 h1
    simp only [List.mem_cons, List.not_mem_nil, or_false, forall_eq_or_imp, forall_eq, unl, unb_ok (show (10 : Int) ≠ 0 by decide), unb_ok (show (8 : Int) ≠ 0 by decide), decide_eq_true_eq] at hb
    refine Ops.cs rfl rfl (CallS.of fn94 rfl ?_)
    (repeat' first | (refine Owe.same ?_; first | refine Owe.o ?_ | refine Owe.mk ?_ ?_) | (refine Fork.same ?_; (first | refine fkD ?_ ?_ | refine fkN ?_ ?_ | refine fkM ?_ ?_) <;> intro h) | refine MvQ.stay ?_)
    have hret : ∀ {k}, k < s.ho.length → (∀ i, i < k → hmN s i = 0) → ¬ hmN s k = 0 → q = ((k : Int), hmN s k) := fun hk h1 h2 => by
      have e := eachN_e hk h1 h2
      rw [if_neg (by rw [e]; exact h2), e] at hq; exact hq
    refine Sat.lp (fun k : Nat => ⟨[(11, vi .i64 k), (10, vi .i64 s.ho.length), (9, .c (ints s.ho)), (1, .c (.fn 107 [0, 1]))], [(1, .box [int s.ho.length]), (0, .box (siC s))], 13⟩) (fun k => k ≤ s.ho.length ∧ ∀ i, i < k → hmN s i = 0) (fun k => s.ho.length - k) 0 [] ⟨Nat.zero_le _, fun i hi => by omega⟩ ?_ ?_
    · (refine qis ?_ ?_ <;> (repeat' first | exact rfl | (refine qS ?_; constructor)))
    · intro k hk
      refine Fork.dec (fun hlt => ?_) (fun hlt => ?_)
      · have hlt : k < s.ho.length := by omega
        have c2 := C56o (l := s.tr.getD k []) (sr k (by omega))
        have hb1 : (!oddI (s.tr.getD k [])) = true → (((s.tr.getD k []).length : Int) ≤ k) → true = hmB s k := fun h1 h2 => by rw [hmB, h1, decide_eq_true h2]; rfl
        have hb2 : (!oddI (s.tr.getD k [])) = true → ¬ (((s.tr.getD k []).length : Int) ≤ k) → decide ((s.tr.getD k []).getD k 0 = 0) = hmB s k := fun h1 h2 => by rw [hmB, h1, decide_eq_false h2]; rfl
        have hb3 : (!oddI (s.tr.getD k [])) = false → false = hmB s k := fun h1 => by rw [hmB, h1]; rfl
        (repeat' first | (refine Owe.same ?_; first | refine Owe.o ?_ | refine Owe.mk ?_ ?_) | (refine Fork.same ?_; (first | refine fkD ?_ ?_ | refine fkN ?_ ?_ | refine fkM ?_ ?_) <;> intro h) | refine MvQ.stay ?_)
        refine Ops.cs rfl rfl (CallS.of fn107 rfl ?_)
        (repeat' first | (refine Owe.same ?_; first | refine Owe.o ?_ | refine Owe.mk ?_ ?_) | (refine Fork.same ?_; (first | refine fkD ?_ ?_ | refine fkN ?_ ?_ | refine fkM ?_ ?_) <;> intro h) | ((first | refine OpsL.same ?_ | refine OpsDL.same ?_); first | refine pK c2 rfl rfl ?_ | refine pK C84 rfl rfl ?_ | refine pK C55 rfl rfl ?_ | refine pK C54 rfl rfl ?_) | refine MvQ.stay ?_)
        all_goals first
          | contradiction
          | have h2 : hmN s k = 0 := hmN_h (P := fun x => x = 0) h (by first | exact hb1 ‹_› ‹_› | exact hb2 ‹_› ‹_› | exact hb3 ‹_›)
            refine again (k + 1) [] ⟨hlt, succ_all hk.2 h2⟩ (by omega) ?_
            (refine qis ?_ ?_ <;> (repeat' first | exact rfl | (refine qS ?_; constructor)))
          | have h2 : ¬ hmN s k = 0 ∧ _ = hmN s k := hmN_h (P := fun x => ¬ x = 0 ∧ _ = x) ⟨h, rfl⟩ (by first | exact hb1 ‹_› ‹_› | exact hb2 ‹_› ‹_› | exact hb3 ‹_›)
            have e := hret hlt hk.2 h2.1
            subst e
            (refine rqK rfl ?_; (repeat' first | exact rfl | (refine qS ?_; constructor)))
            exact h2.2
      · have : k = s.ho.length := by omega
        subst this
        rw [if_pos (eachN_ok.2 hk.2)] at hq
        (repeat' first | (refine Owe.same ?_; first | refine Owe.o ?_ | refine Owe.mk ?_ ?_) | (refine Fork.same ?_; (first | refine fkY ?_ | refine fkF ?_ | ((first | refine fkD ?_ ?_ | refine fkN ?_ ?_ | refine fkM ?_ ?_) <;> intro h))) | ((first | refine OpsL.same ?_ | refine OpsDL.same ?_); first | refine oK C55 rfl rfl rfl ?_) | refine MvQ.stay ?_)
        clear hret
        have hret : ∀ {k}, k < s.tk.length → (∀ i, i < k → plN s i = 0) → ¬ plN s k = 0 → q = ((k : Int), plN s k) := fun hk h1 h2 => by
          have e := eachN_e hk h1 h2
          rw [if_neg (by rw [e]; exact h2), e] at hq; exact hq
        clear hk hlt
        refine Ops.cs rfl rfl (CallS.of fn109 rfl ?_)
        (repeat' first | (refine Owe.same ?_; first | refine Owe.o ?_ | refine Owe.mk ?_ ?_) | (refine Fork.same ?_; (first | refine fkD ?_ ?_ | refine fkN ?_ ?_ | refine fkM ?_ ?_) <;> intro h) | refine MvQ.stay ?_)
        refine Sat.lp (fun k : Nat => ⟨[(11, vi .i64 k), (10, vi .i64 s.tk.length), (9, .c (tks s.tk)), (1, .c (.fn 110 [1]))], [(1, .box [int s.ho.length]), (0, .box (siC s))], 13⟩) (fun k => k ≤ s.tk.length ∧ ∀ i, i < k → plN s i = 0) (fun k => s.tk.length - k) 0 [] ⟨Nat.zero_le _, fun i hi => by omega⟩ ?_ ?_
        · (refine qis ?_ ?_ <;> (repeat' first | exact rfl | (refine qS ?_; constructor)))
        · intro k hk
          refine Fork.dec (fun hlt => ?_) (fun hlt => ?_)
          · have hlt : k < s.tk.length := by omega
            (repeat' first | (refine Owe.same ?_; first | refine Owe.o ?_ | refine Owe.mk ?_ ?_) | (refine Fork.same ?_; (first | refine fkD ?_ ?_ | refine fkN ?_ ?_ | refine fkM ?_ ?_) <;> intro h) | refine MvQ.stay ?_)
            refine Ops.cs rfl rfl (CallS.of fn110 rfl ?_)
            (repeat' first | (refine Owe.same ?_; first | refine Owe.o ?_ | refine Owe.mk ?_ ?_) | (refine Fork.same ?_; (first | refine fkD ?_ ?_ | refine fkN ?_ ?_ | refine fkM ?_ ?_) <;> intro h) | ((first | refine OpsL.same ?_ | refine OpsDL.same ?_); first | refine pK C55 rfl rfl ?_) | refine MvQ.stay ?_)
            all_goals first
              | contradiction
              | have h2 : plN s k = 0 := h
                refine again (k + 1) [] ⟨hlt, succ_all hk.2 h2⟩ (by omega) ?_
                (refine qis ?_ ?_ <;> (repeat' first | exact rfl | (refine qS ?_; constructor)))
              | have h2 : ¬ plN s k = 0 := h
                have e := hret hlt hk.2 h2
                subst e
                (refine rqK rfl ?_; (repeat' first | exact rfl | (refine qS ?_; constructor)))
          · have : k = s.tk.length := by omega
            subst this
            rw [if_pos (eachN_ok.2 hk.2)] at hq
            (repeat' first | (refine Owe.same ?_; first | refine Owe.o ?_ | refine Owe.mk ?_ ?_) | (refine Fork.same ?_; (first | refine fkY ?_ | refine fkF ?_ | ((first | refine fkD ?_ ?_ | refine fkN ?_ ?_ | refine fkM ?_ ?_) <;> intro h))) | ((first | refine OpsL.same ?_ | refine OpsDL.same ?_); first | refine oK C55 rfl rfl rfl ?_) | refine MvQ.stay ?_)
            · rw [if_pos h] at hq; subst hq; (refine rqK rfl ?_; (repeat' first | exact rfl | (refine qS ?_; constructor)))
            · rw [if_neg h] at hq
              clear hret
              have hret : ∀ {k}, k < s.ti.length → (∀ i, i < k → tiN s i = 0) → ¬ tiN s k = 0 → q = ((k : Int), tiN s k) := fun hk h1 h2 => by
                have e := eachN_e hk h1 h2
                rw [if_neg (by rw [e]; exact h2), e] at hq; exact hq
              clear hk hlt
              refine Ops.cs rfl rfl (CallS.of fn111 rfl ?_)
              (repeat' first | (refine Owe.same ?_; first | refine Owe.o ?_ | refine Owe.mk ?_ ?_) | (refine Fork.same ?_; (first | refine fkD ?_ ?_ | refine fkN ?_ ?_ | refine fkM ?_ ?_) <;> intro h) | refine MvQ.stay ?_)
              refine Sat.lp (fun k : Nat => ⟨[(11, vi .i64 k), (10, vi .i64 s.ti.length), (9, .c (trs s.ti)), (1, .c (.fn 112 [13]))], [(13, .box [int (lastT s k)]), (1, .box [int s.ho.length]), (0, .box (siC s))], 14⟩) (fun k => k ≤ s.ti.length ∧ ∀ i, i < k → tiN s i = 0) (fun k => s.ti.length - k) 0 [] ⟨Nat.zero_le _, fun i hi => by omega⟩ ?_ ?_
              · (refine qis ?_ ?_ <;> (repeat' first | exact rfl | (refine qS ?_; constructor)))
              · intro k hk
                refine Fork.dec (fun hlt => ?_) (fun hlt => ?_)
                · have hlt : k < s.ti.length := by omega
                  obtain ⟨last, hla⟩ : ∃ x, x = lastT s k := ⟨_, rfl⟩
                  rw [← hla]
                  have hret : ¬ tiF (s.ti.getD k (0, 0, 0)) last = 0 → q = ((k : Int), tiF (s.ti.getD k (0, 0, 0)) last) := fun h2 => by subst hla; exact hret hlt hk.2 h2
                  have hnx : tiF (s.ti.getD k (0, 0, 0)) last = 0 → ∀ i, i < k + 1 → tiN s i = 0 := fun h2 => by subst hla; exact succ_all hk.2 h2
                  clear hla
                  obtain ⟨x, hx⟩ : ∃ x, x = s.ti.getD k (0, 0, 0) := ⟨_, rfl⟩
                  (repeat' first | (refine Owe.same ?_; first | refine Owe.o ?_ | refine Owe.mk ?_ ?_) | (refine Fork.same ?_; (first | refine fkD ?_ ?_ | refine fkN ?_ ?_ | refine fkM ?_ ?_) <;> intro h) | refine MvQ.stay ?_)
                  refine Ops.cs rfl rfl (CallS.of fn112 rfl ?_)
                  (repeat' first | (refine Owe.same ?_; first | refine Owe.o ?_ | refine Owe.mk ?_ ?_) | (refine Fork.same ?_; (first | refine fkD ?_ ?_ | refine fkN ?_ ?_ | refine fkM ?_ ?_) <;> intro h) | ((first | refine OpsL.same ?_ | refine OpsDL.same ?_); first | refine pK C113 rfl rfl ?_ | refine pK C84 rfl rfl ?_ | refine pK C55 rfl rfl ?_ | refine pK C54 rfl rfl ?_) | refine MvQ.stay ?_)
                  all_goals first
                    | contradiction
                    | have h2 : tiF (s.ti.getD k (0, 0, 0)) last = 0 := tiF_h (P := fun x => x = 0) h (by rw [Bool.eq_iff_iff]; (try simp only [decide_eq_true_eq, Bool.false_eq_true, false_iff]); simp only [Int.toNat_natCast] at *; omega) (by rw [Bool.eq_iff_iff]; (try simp only [decide_eq_true_eq, Bool.false_eq_true, false_iff]); simp only [Int.toNat_natCast] at *; omega)
                      refine again (k + 1) [] ⟨hlt, hnx h2⟩ (by omega) ?_
                      (refine qis ?_ ?_ <;> (repeat' first | exact rfl | (refine qS ?_; constructor)))
                    | have h2 : ¬ tiF (s.ti.getD k (0, 0, 0)) last = 0 := tiF_h (P := fun x => ¬ x = 0) h (by rw [Bool.eq_iff_iff]; (try simp only [decide_eq_true_eq, Bool.false_eq_true, false_iff]); simp only [Int.toNat_natCast] at *; omega) (by rw [Bool.eq_iff_iff]; (try simp only [decide_eq_true_eq, Bool.false_eq_true, false_iff]); simp only [Int.toNat_natCast] at *; omega)
                      have e := hret h2
                      subst e
                      (refine rqK rfl ?_; (repeat' first | exact rfl | (refine qS ?_; constructor)))
                      exact tiF_of (by rw [Bool.eq_iff_iff]; (try simp only [decide_eq_true_eq, Bool.false_eq_true, false_iff]); simp only [Int.toNat_natCast] at *; omega) (by rw [Bool.eq_iff_iff]; (try simp only [decide_eq_true_eq, Bool.false_eq_true, false_iff]); simp only [Int.toNat_natCast] at *; omega)
                · have : k = s.ti.length := by omega
                  subst this
                  rw [if_pos (eachN_ok.2 hk.2)] at hq
                  (repeat' first | (refine Owe.same ?_; first | refine Owe.o ?_ | refine Owe.mk ?_ ?_) | (refine Fork.same ?_; (first | refine fkY ?_ | refine fkF ?_ | ((first | refine fkD ?_ ?_ | refine fkN ?_ ?_ | refine fkM ?_ ?_) <;> intro h))) | ((first | refine OpsL.same ?_ | refine OpsDL.same ?_); first | refine oK C113 rfl rfl rfl ?_ | refine oK C84 rfl rfl rfl ?_ | refine oK C55 rfl rfl rfl ?_) | refine MvQ.stay ?_)
                  all_goals subst hq
                  all_goals (refine rqK rfl ?_; (repeat' first | exact rfl | (refine qS ?_; constructor)))
                  all_goals exact unb_of (by rw [Bool.eq_iff_iff]; (try simp only [decide_eq_true_eq, Bool.false_eq_true, false_iff]); omega)
end Go.Pw

set_option linter.unusedVariables false
namespace Go.Pw
open Go Go.RowKit
theorem okD_listI {row : List Sh} {α : Type} {r : α → List D} {Q : α → Prop} (a0 : α) (hr : ∀ ds, OkDs row ds → ∃ a, DIs ds (r a) ∧ Q a) {d : D} (h : OkD (.sl row) d) :
    ∃ l : List α, DI d (.sl row.length l.length fun i => r (l.getD i a0)) ∧ l.length ≤ maxLen ∧ ∀ a ∈ l, Q a := by
  obtain ⟨n, f, rfl, hn, hf⟩ := okD_sl h
  have : ∀ i, ∃ a, i < n → DIs (f i) (r a) ∧ Q a := fun i => by
    by_cases hi : i < n
    · obtain ⟨a, ha⟩ := hr _ (hf i hi); exact ⟨a, fun _ => ha⟩
    · exact ⟨a0, fun h => absurd h hi⟩
  refine ⟨(List.range n).map fun i => Classical.choose (this i), ?_, by simpa using hn, fun a ha => ?_⟩
  · rw [show ((List.range n).map fun i => Classical.choose (this i)).length = n by simp]
    refine DI.sl fun i hi => ?_
    have h1 := (Classical.choose_spec (this i) hi).1
    rw [List.getD_eq_getElem?_getD]
    simpa [hi] using h1
  · obtain ⟨i, hi, rfl⟩ := List.mem_map.1 ha
    exact (Classical.choose_spec (this i) (by simpa using hi)).2
theorem intsI {d : D} (h : OkD (.sl [.int .i64]) d) : ∃ l : List Int, DI d (intsD l) ∧ l.length ≤ maxLen := by
  obtain ⟨l, h1, h2, _⟩ := okD_listI (r := r1) (Q := fun _ => True) (0 : Int) (fun ds hd => by
    obtain ⟨a, rfl, _⟩ := row1 hd
    exact ⟨a, DIs.refl _, trivial⟩) h
  exact ⟨l, h1, h2⟩
theorem intI {d : D} (h : OkD (.int .i64) d) : ∃ n : Int, DI d (dI n) := by
  obtain ⟨n, rfl, _⟩ := okD_int h
  exact ⟨n, DI.refl _⟩
abbrev tkSh : List Sh := [.str, .int .i64, .int .i64, .int .i64, .int .i64, .int .i64, .int .i64, .int .i64, .sl [.int .i64]]
theorem rowTk {ds : List D} (h : OkDs tkSh ds) : ∃ t : Tk, DIs ds (tkr t) ∧ t.n.size ≤ maxLen ∧ t.a.length ≤ maxLen := by
  obtain ⟨d1, e1, rfl, a1, k1⟩ := okDs_cons h
  obtain ⟨d2, e2, rfl, a2, k2⟩ := okDs_cons k1
  obtain ⟨d3, e3, rfl, a3, k3⟩ := okDs_cons k2
  obtain ⟨d4, e4, rfl, a4, k4⟩ := okDs_cons k3
  obtain ⟨d5, e5, rfl, a5, k5⟩ := okDs_cons k4
  obtain ⟨d6, e6, rfl, a6, k6⟩ := okDs_cons k5
  obtain ⟨d7, e7, rfl, a7, k7⟩ := okDs_cons k6
  obtain ⟨d8, e8, rfl, a8, k8⟩ := okDs_cons k7
  obtain ⟨d9, e9, rfl, a9, k9⟩ := okDs_cons k8
  rw [okDs_nil k9]
  obtain ⟨s, rfl, hs⟩ := okD_str a1
  obtain ⟨n2, b2⟩ := intI a2
  obtain ⟨n3, b3⟩ := intI a3
  obtain ⟨n4, b4⟩ := intI a4
  obtain ⟨n5, b5⟩ := intI a5
  obtain ⟨n6, b6⟩ := intI a6
  obtain ⟨n7, b7⟩ := intI a7
  obtain ⟨n8, b8⟩ := intI a8
  obtain ⟨l, b9, hl⟩ := intsI a9
  exact ⟨⟨s, n2, n3, n4, n5, n6, n7, n8, l⟩, .cons (DI.refl _) (.cons b2 (.cons b3 (.cons b4 (.cons b5 (.cons b6 (.cons b7 (.cons b8 (.cons b9 .nil)))))))), hs, hl⟩
abbrev siSh : List Sh := [.sl tkSh, .sl [.sl [.int .i64]], .sl [.int .i64], .sl [.int .i64, .int .i64, .int .i64], .int .i64, .int .i64, .int .i64, .int .i64]
/-- The sizes of a site that is an argument. -/
structure SiMx (s : Si) : Prop where
  tk : s.tk.length ≤ maxLen
  t : ∀ i, i < s.tk.length → (s.tk.getD i tk0).n.size ≤ maxLen ∧ (s.tk.getD i tk0).a.length ≤ maxLen
  tr : s.tr.length ≤ maxLen
  r : ∀ i, i < s.tr.length → (s.tr.getD i []).length ≤ maxLen
  ho : s.ho.length ≤ maxLen
  ti : s.ti.length ≤ maxLen
theorem all_getD {α : Type} {l : List α} {d : α} {Q : α → Prop} (h : ∀ a ∈ l, Q a) : ∀ i, i < l.length → Q (l.getD i d) := fun i hi => h _ (by rw [List.getD_eq_getElem?_getD, List.getElem?_eq_getElem hi]; exact List.getElem_mem _)
theorem arg_site {v : V} (h : Arg true siSh v) : ∃ s : Si, RI v (siv s) ∧ SiMx s := by
  obtain ⟨ds, rfl, h1⟩ := arg_agg h
  obtain ⟨d1, e1, rfl, a1, k1⟩ := okDs_cons h1
  obtain ⟨d2, e2, rfl, a2, k2⟩ := okDs_cons k1
  obtain ⟨d3, e3, rfl, a3, k3⟩ := okDs_cons k2
  obtain ⟨d4, e4, rfl, a4, k4⟩ := okDs_cons k3
  obtain ⟨d5, e5, rfl, a5, k5⟩ := okDs_cons k4
  obtain ⟨d6, e6, rfl, a6, k6⟩ := okDs_cons k5
  obtain ⟨d7, e7, rfl, a7, k7⟩ := okDs_cons k6
  obtain ⟨d8, e8, rfl, a8, k8⟩ := okDs_cons k7
  rw [okDs_nil k8]
  obtain ⟨l1, b1, q1, p1⟩ := okD_listI tk0 (fun ds => rowTk) a1
  obtain ⟨l2, b2, q2, p2⟩ := okD_listI (r := fun l => [intsD l]) (Q := fun l => l.length ≤ maxLen) ([] : List Int) (fun ds hd => by
    obtain ⟨d, es, rfl, g1, g2⟩ := okDs_cons hd
    obtain ⟨l, g3, g4⟩ := intsI g1
    rw [okDs_nil g2]
    exact ⟨l, .cons g3 .nil, g4⟩) a2
  obtain ⟨l3, b3, q3⟩ := intsI a3
  obtain ⟨l4, b4, q4, _⟩ := okD_listI (r := r3) (Q := fun _ => True) ((0, 0, 0) : Int × Int × Int) (fun ds hd => by
    obtain ⟨a, rfl, _⟩ := row3 hd
    exact ⟨a, DIs.refl _, trivial⟩) a4
  obtain ⟨n5, b5⟩ := intI a5
  obtain ⟨n6, b6⟩ := intI a6
  obtain ⟨n7, b7⟩ := intI a7
  obtain ⟨n8, b8⟩ := intI a8
  exact ⟨⟨l1, l2, l3, l4, n5, n6, n7, n8⟩, RI.aggI (es := siD ⟨l1, l2, l3, l4, n5, n6, n7, n8⟩) (.cons b1 (.cons b2 (.cons b3 (.cons b4 (.cons b5 (.cons b6 (.cons b7 (.cons b8 .nil)))))))), q1, all_getD p1, q2, all_getD p2, q3, q4⟩
abbrev stSh : List Sh := [.int .i64, .int .i64, .int .i64, .int .i64, .sl [.int .i64]]
theorem arg_state {v : V} (h : Arg true stSh v) : ∃ t : St8, RI v (stv t) ∧ t.d.length ≤ maxLen := by
  obtain ⟨ds, rfl, h1⟩ := arg_agg h
  obtain ⟨d1, e1, rfl, a1, k1⟩ := okDs_cons h1
  obtain ⟨d2, e2, rfl, a2, k2⟩ := okDs_cons k1
  obtain ⟨d3, e3, rfl, a3, k3⟩ := okDs_cons k2
  obtain ⟨d4, e4, rfl, a4, k4⟩ := okDs_cons k3
  obtain ⟨d5, e5, rfl, a5, k5⟩ := okDs_cons k4
  rw [okDs_nil k5]
  obtain ⟨n1, b1⟩ := intI a1
  obtain ⟨n2, b2⟩ := intI a2
  obtain ⟨n3, b3⟩ := intI a3
  obtain ⟨n4, b4⟩ := intI a4
  obtain ⟨l, b5, q5⟩ := intsI a5
  exact ⟨⟨n1, n2, n3, n4, l⟩, RI.aggI (es := stD ⟨n1, n2, n3, n4, l⟩) (.cons b1 (.cons b2 (.cons b3 (.cons b4 (.cons b5 .nil))))), q5⟩
end Go.Pw

set_option linter.unusedVariables false
namespace Go.Pw
open Go Go.RowKit
abbrev ofSh : List Sh := [.sl [.int .i64], .int .i64, .int .i64, .int .i64]
theorem arg_offer {v : V} (h : Arg true ofSh v) : ∃ (l : List Int) (p : Int × Int) (n : Int), RI v (.agg [ints l, int p.1, int p.2, int n]) ∧ i64 p.1 ∧ i64 p.2 ∧ i64 n := by
  obtain ⟨ds, rfl, h1⟩ := arg_agg h
  obtain ⟨d1, e1, rfl, a1, k1⟩ := okDs_cons h1
  obtain ⟨d2, e2, rfl, a2, k2⟩ := okDs_cons k1
  obtain ⟨d3, e3, rfl, a3, k3⟩ := okDs_cons k2
  obtain ⟨d4, e4, rfl, a4, k4⟩ := okDs_cons k3
  rw [okDs_nil k4]
  obtain ⟨l, b1, _⟩ := intsI a1
  obtain ⟨n2, rfl, q2⟩ := okD_int a2
  obtain ⟨n3, rfl, q3⟩ := okD_int a3
  obtain ⟨n4, rfl, q4⟩ := okD_int a4
  exact ⟨l, (n2, n3), n4, RI.aggI (es := [intsD l, dI n2, dI n3, dI n4]) (.cons b1 (.cons (DI.refl _) (.cons (DI.refl _) (.cons (DI.refl _) .nil)))), q2, q3, q4⟩
end Go.Pw

set_option linter.unusedSimpArgs false
set_option linter.unusedVariables false
set_option maxHeartbeats 2000000
namespace Go.Pw
set_option maxRecDepth 2000
open Go Go.Proofs A1 A2 A3 A4
abbrev stN (t : St8) : Int := unl ((isT t.t ∧ 0 ≤ t.w ∧ t.w ≤ 100000000) ∧ isN t.o) 2
abbrev stF (s : Si) (t : St8) : Int := fstE [(siE s).2, unl (0 ≤ t.p ∧ t.p ≤ (s.ho.length : Int) - 1) 6, stN t]
def stE (s : Si) (t : St8) : Int × Int := if stF s t = 0 then ascE t.d s.tk.length else (0, stF s t)
theorem stF_of {s : Si} {t : St8} {b : Bool} (h1 : b = decide ((isT t.t ∧ 0 ≤ t.w ∧ t.w ≤ 100000000) ∧ isN t.o)) : fstE [(siE s).2, unl (0 ≤ t.p ∧ t.p ≤ (s.ho.length : Int) - 1) 6, unb b 2] = stF s t := by subst h1; rfl
theorem stF_h {s : Si} {t : St8} {b : Bool} {P : Int → Prop} (h : P (fstE [(siE s).2, unl (0 ≤ t.p ∧ t.p ≤ (s.ho.length : Int) - 1) 6, unb b 2])) (h1 : b = decide ((isT t.t ∧ 0 ≤ t.w ∧ t.w ≤ 100000000) ∧ isN t.o)) : P (stF s t) := stF_of h1 ▸ h
theorem C93 {s : Si} {t : St8} : (SiSm s ∧ t.d.length ≤ 1000000) → PFD Tryz.prog 93 [siv s, stv t] (.tup [vi .i64 (stE s t).1, vi .i64 (stE s t).2]) := fun ⟨hs, ht⟩ => by
  have c1 := C73 hs
  have h9 := hs.tk
  have h8 := hs.ho
  have c2 := C119 (l := t.d) (b := s.tk.length) ⟨ht, by omega⟩
  obtain ⟨q, hq⟩ : ∃ q, q = stE s t := ⟨_, rfl⟩
  rw [← hq]
  rw [stE] at hq
  refine pi2 fn93 ?_
  (repeat' first | (refine Owe.same ?_; first | refine Owe.o ?_ | refine Owe.mk ?_ ?_) | (refine Fork.same ?_; (first | refine fkD ?_ ?_ | refine fkN ?_ ?_ | refine fkM ?_ ?_) <;> intro h) | ((first | refine OpsL.same ?_ | refine OpsDL.same ?_); first | refine pK c1 rfl rfl ?_ | refine pK c2 rfl rfl ?_ | refine pK C69 rfl rfl ?_ | refine pK C113 rfl rfl ?_ | refine pK C84 rfl rfl ?_ | refine pK C55 rfl rfl ?_ | refine pK C54 rfl rfl ?_) | refine MvQ.stay ?_)
  all_goals first
    | have h2 : stF s t = 0 := stF_h (P := fun x => x = 0) h (by rw [Bool.eq_iff_iff]; (try simp only [decide_eq_true_eq, Bool.false_eq_true, false_iff]); omega)
      rw [if_pos h2] at hq; subst hq
      (refine rqK rfl ?_; (repeat' first | exact rfl | (refine qS ?_; constructor)))
    | have h2 : ¬ stF s t = 0 := stF_h (P := fun x => ¬ x = 0) h (by rw [Bool.eq_iff_iff]; (try simp only [decide_eq_true_eq, Bool.false_eq_true, false_iff]); omega)
      rw [if_neg h2] at hq; subst hq
      (refine rqK rfl ?_; (repeat' first | exact rfl | (refine qS ?_; constructor)))
      exact stF_of (by rw [Bool.eq_iff_iff]; (try simp only [decide_eq_true_eq, Bool.false_eq_true, false_iff]); omega)
abbrev diD (s : Si) (t : St8) : List D := [tksD s.tk, rwsD s.tr, intsD s.ho, trsD s.ti, dI s.idle, dI s.swim, dI s.res, dI s.fin, dI t.p, dI t.t, dI t.w, dI t.o, intsD t.d]
abbrev diC (s : Si) (t : St8) : List C := [.d (tksD s.tk), .d (rwsD s.tr), ints s.ho, trs s.ti, int s.idle, int s.swim, int s.res, int s.fin, int t.p, int t.t, int t.w, int t.o, ints t.d]
abbrev div (s : Si) (t : St8) : V := .agg (diC s t)
/-- The error of a site and a state. -/
def onE (s : Si) (t : St8) : Int := fstE [(siE s).2, (stE s t).2]
theorem C52 {s : Si} {t : St8} : (SiSm s ∧ t.d.length ≤ 1000000) → PFD Tryz.prog 52 [siv s, stv t] (.tup [div s t, vi .i64 (onE s t)]) := fun ⟨hs, ht⟩ => by
  have c1 := C73 hs
  have c2 := C93 ⟨hs, ht⟩
  refine pi2 fn52 ?_
  (repeat' first | (refine Owe.same ?_; first | refine Owe.o ?_ | refine Owe.mk ?_ ?_) | (refine Fork.same ?_; (first | refine fkD ?_ ?_ | refine fkN ?_ ?_ | refine fkM ?_ ?_) <;> intro h) | ((first | refine OpsL.same ?_ | refine OpsDL.same ?_); first | refine pK c1 rfl rfl ?_ | refine pK c2 rfl rfl ?_ | refine pK C54 rfl rfl ?_) | refine MvQ.stay ?_)
  (refine rqK rfl ?_; (repeat' first | exact rfl | (refine qS ?_; constructor)))
def swL (n a : Int) : List (Int × Int × Int) → Int
  | [] => n
  | x :: l => if x.1 ≤ a ∧ a ≤ x.2.1 then n + x.2.2 else swL n a l
theorem swL_drop (n a : Int) (l : List (Int × Int × Int)) (k : Nat) (h : k < l.length) : swL n a (l.drop k) = if (l.getD k (0, 0, 0)).1 ≤ a ∧ a ≤ (l.getD k (0, 0, 0)).2.1 then n + (l.getD k (0, 0, 0)).2.2 else swL n a (l.drop (k + 1)) := by
  rw [List.drop_eq_getElem_cons h, swL, List.getD_eq_getElem?_getD, List.getElem?_eq_getElem h]
  rfl
/-- How long a swim takes that is begun at a tick. -/
def swF (l : List (Int × Int × Int)) (n a : Int) : Int := if n = 0 then 0 else swL n a l
theorem C122 {s : Si} {t : St8} {n a : Int} : (s.ti.length ≤ 1000000 ∧ (∀ k, k < s.ti.length → isN (s.ti.getD k (0, 0, 0)).2.2) ∧ -1000000000 ≤ n ∧ n ≤ 1000000000) → PFD Tryz.prog 122 [div s t, vi .i64 n, vi .i64 a] (vi .i64 (swF s.ti n a)) := fun ⟨hl, hs, hn⟩ => by
  obtain ⟨q, hq⟩ : ∃ q, q = swF s.ti n a := ⟨_, rfl⟩
  rw [← hq]
  rw [swF] at hq
  refine pi1 fn122 ?_
  (repeat' first | (refine Owe.same ?_; first | refine Owe.o ?_ | refine Owe.mk ?_ ?_) | (refine Fork.same ?_; (first | refine fkD ?_ ?_ | refine fkN ?_ ?_ | refine fkM ?_ ?_) <;> intro h) | refine MvQ.stay ?_)
  · rw [if_pos h] at hq; subst hq; (refine rqK rfl ?_; (repeat' first | exact rfl | (refine qS ?_; constructor)))
  · rw [if_neg h] at hq
    refine Sat.lp0 (fun k : Nat => [(15, vi .i64 k), (14, vi .i64 s.ti.length), (13, .c (trs s.ti)), (1, vi .i64 n), (2, vi .i64 a)]) (fun k => k ≤ s.ti.length ∧ q = swL n a (s.ti.drop k)) (fun k => s.ti.length - k) 0 ⟨Nat.zero_le _, hq⟩ (by ((first | refine qen ?_ | refine qvs ?_ | refine qeq ?_ | refine qst ?_ | refine qv ?_ | refine qc ?_ | refine qe ?_ | refine qcs ?_ | skip); (repeat' first | exact rfl | (refine qS ?_; constructor)))) ?_
    intro k hk
    refine Fork.dec (fun hlt => ?_) (fun hlt => ?_)
    · have hlt : k < s.ti.length := by omega
      have h1 := hs k hlt
      have e := swL_drop n a s.ti k hlt
      rw [← hk.2] at e
      (repeat' first | (refine Owe.same ?_; first | refine Owe.o ?_ | refine Owe.mk ?_ ?_) | (refine Fork.same ?_; (first | refine fkD ?_ ?_ | refine fkN ?_ ?_ | refine fkM ?_ ?_) <;> intro h) | ((first | refine OpsL.same ?_ | refine OpsDL.same ?_); first | refine pK C69 rfl rfl ?_) | refine MvQ.stay ?_)
      · have h : (s.ti.getD k (0, 0, 0)).1 ≤ a ∧ a ≤ (s.ti.getD k (0, 0, 0)).2.1 := h
        rw [if_pos h] at e; subst e
        (refine rqK rfl ?_; (repeat' first | exact rfl | (refine qS ?_; constructor)))
      · have h : ¬ ((s.ti.getD k (0, 0, 0)).1 ≤ a ∧ a ≤ (s.ti.getD k (0, 0, 0)).2.1) := h
        rw [if_neg h] at e
        exact again0 (k + 1) ⟨hlt, e⟩ (by omega) (by ((first | refine qen ?_ | refine qvs ?_ | refine qeq ?_ | refine qst ?_ | refine qv ?_ | refine qc ?_ | refine qe ?_ | refine qcs ?_ | skip); (repeat' first | exact rfl | (refine qS ?_; constructor))))
    · have e := hk.2
      rw [List.drop_of_length_le (by omega)] at e
      (repeat' first | (refine Owe.same ?_; first | refine Owe.o ?_ | refine Owe.mk ?_ ?_) | (refine Fork.same ?_; (first | refine fkD ?_ ?_ | refine fkN ?_ ?_ | refine fkM ?_ ?_) <;> intro h) | refine MvQ.stay ?_)
      subst e
      (refine rqK rfl ?_; (repeat' first | exact rfl | (refine qS ?_; constructor)))
theorem fst2 {a b : Int} : fstE [a, b] = 0 ↔ a = 0 ∧ b = 0 := by rw [fstE_ok]; simp
theorem fst3 {a b c : Int} : fstE [a, b, c] = 0 ↔ a = 0 ∧ b = 0 ∧ c = 0 := by rw [fstE_ok]; simp
theorem fst4 {a b c d : Int} : fstE [a, b, c, d] = 0 ↔ a = 0 ∧ b = 0 ∧ c = 0 ∧ d = 0 := by rw [fstE_ok]; simp
theorem unl0 {p : Prop} [Decidable p] {e : Int} (he : e ≠ 0) : unb (decide p) e = 0 ↔ p := by rw [unb_ok he, decide_eq_true_eq]
structure TkOk (s : Si) (i : Nat) : Prop where
  n : nmP (s.tk.getD i tk0).n
  k : knB s.tk i (s.tk.getD i tk0).n = false
  p : 0 ≤ (s.tk.getD i tk0).p ∧ (s.tk.getD i tk0).p ≤ 4
  q : (s.tk.getD i tk0).p < s.ho.length
  d : isN (s.tk.getD i tk0).d
  w : isN (s.tk.getD i tk0).w
  o : isN (s.tk.getD i tk0).o
  v : isN (s.tk.getD i tk0).v
  lo : isT (s.tk.getD i tk0).lo
  hi : isT (s.tk.getD i tk0).hi
  r : (s.tk.getD i tk0).lo ≤ (s.tk.getD i tk0).hi
  a : (ascE (s.tk.getD i tk0).a i).2 = 0
structure SiOk (s : Si) : Prop where
  n : s.tk.length ≤ 6
  t : ∀ i, i < s.tk.length → TkOk s i
  h : (1 ≤ s.ho.length ∧ s.ho.length ≤ 5) ∧ s.tr.length = s.ho.length
  r : ∀ i, i < s.ho.length → (isN (s.ho.getD i 0) ∧ (s.tr.getD i []).length = s.ho.length) ∧ (∀ j, isN ((s.tr.getD i []).getD j 0)) ∧ (s.tr.getD i []).getD i 0 = 0
  m : s.ti.length ≤ 6
  u : ∀ i, i < s.ti.length → ((isT (s.ti.getD i (0, 0, 0)).1 ∧ isT (s.ti.getD i (0, 0, 0)).2.1) ∧ isN (s.ti.getD i (0, 0, 0)).2.2) ∧ (s.ti.getD i (0, 0, 0)).1 ≤ (s.ti.getD i (0, 0, 0)).2.1 ∧ lastT s i < (s.ti.getD i (0, 0, 0)).1
  e : ((isN s.idle ∧ isN s.swim) ∧ isN s.res) ∧ isT s.fin
theorem oddI_f {l : List Int} (h : oddI l = false) : ∀ j, isN (l.getD j 0) := fun j => by
  by_cases hj : j < l.length
  · have := List.any_eq_false.1 h _ (getD_mem 0 hj)
    simpa using this
  · rw [List.getD_eq_getElem?_getD, List.getElem?_eq_none (by omega)]; decide
theorem SiOk.of {s : Si} (h : (siE s).2 = 0) : SiOk s := by
  rw [siE] at h
  by_cases h1 : (tsE s.tk).2 = 0
  · rw [if_pos h1] at h
    by_cases h2 : hoE s = 0
    · rw [if_pos h2] at h
      by_cases h3 : (eachN (hmN s) 0 s.ho.length).2 = 0
      · rw [if_pos h3] at h
        by_cases h4 : (eachN (plN s) 0 s.tk.length).2 = 0
        · rw [if_pos h4] at h
          by_cases h5 : (s.ti.length : Int) > 6
          · rw [if_pos h5] at h; cases h
          · rw [if_neg h5] at h
            by_cases h6 : (eachN (tiN s) 0 s.ti.length).2 = 0
            · rw [if_pos h6] at h
              have h7 := (unl0 (show (2 : Int) ≠ 0 by decide)).1 h
              have h6 := eachN_ok.1 h6
              have h4 := eachN_ok.1 h4
              have h3 := eachN_ok.1 h3
              rw [hoE, fst3, unl0 (by decide), unl0 (by decide), unl0 (by decide)] at h2
              have h8 : s.tk.length ≤ 6 := by
                rw [tsE] at h1
                split at h1
                · cases h1
                · omega
              have h9 : ∀ i, i < s.tk.length → tkE s.tk i = 0 := by
                rw [tsE, if_neg (by omega)] at h1
                exact eachN_ok.1 h1
              refine ⟨h8, fun i hi => ?_, by omega, fun i hi => ?_, by omega, fun i hi => ?_, h7⟩
              · have a1 := h9 i hi
                have a2 := (unl0 (by decide)).1 (h4 i hi)
                rw [tkE] at a1
                split at a1
                · rename_i a3
                  rw [tkF, fst4, tksE, fst2, unl0 (by decide), unb_ok (by decide), unb_ok (by decide), unl0 (by decide), unl0 (by decide), Bool.and_eq_true, decide_eq_true_eq] at a3
                  obtain ⟨b1, b2, b3, b4, b5⟩ := a3
                  have b6 := oddI_f ((Bool.not_eq_true' _).mp b3.2)
                  exact ⟨b1, by simpa using b2, b3.1, a2, b6 0, b6 1, b6 2, b6 3, b4.1, b4.2, b5, a1⟩
                · rename_i a3; exact absurd a1 a3
              · have a1 := h3 i hi
                rw [hmN, fst3, unl0 (by decide), unl0 (by decide), unb_ok (by decide), hmB, Bool.and_eq_true, Bool.or_eq_true, decide_eq_true_eq, decide_eq_true_eq] at a1
                refine ⟨⟨a1.1, by omega⟩, oddI_f ((Bool.not_eq_true' _).mp a1.2.2.1), ?_⟩
                rcases a1.2.2.2 with a2 | a2
                · omega
                · exact a2
              · have a1 := h6 i hi
                rw [tiN, tiF, fst2, unl0 (by decide), unl0 (by decide)] at a1
                exact a1
            · rw [if_neg h6] at h; exact absurd h h6
        · rw [if_neg h4] at h; exact absurd h h4
      · rw [if_neg h3] at h; exact absurd h h3
    · rw [if_neg h2] at h; exact absurd h h2
  · rw [if_neg h1] at h; exact absurd h h1
/-- A dive that can be walked on: a valid site, a place, numbers that are not great. -/
structure DvB (s : Si) (t : St8) : Prop where
  ok : SiOk s
  pl : 0 ≤ t.p ∧ t.p < s.ho.length
  tm : -1000000 ≤ t.t ∧ t.t ≤ 1000000
  en : -1000000000000 ≤ t.w ∧ t.w ≤ 1000000000000
theorem swF_bd {l : List (Int × Int × Int)} {n a : Int} (hs : ∀ k, k < l.length → isN (l.getD k (0, 0, 0)).2.2) (hn : isN n) : n ≤ swF l n a ∧ swF l n a ≤ n + 10000 := by
  have : ∀ m k, l.length - k = m → n ≤ swL n a (l.drop k) ∧ swL n a (l.drop k) ≤ n + 10000 := fun m => by
    induction m with
    | zero => intro k hk; rw [List.drop_of_length_le (by omega), swL]; omega
    | succ m ih =>
      intro k hk
      rw [swL_drop n a l k (by omega)]
      have := hs k (by omega)
      split
      · omega
      · exact ih (k + 1) (by omega)
  rw [swF]
  split
  · omega
  · exact this _ 0 rfl
/-- The ticks of the return. -/
abbrev hmT (s : Si) (t : St8) : Int := swF s.ti (s.ho.getD t.p.toNat 0) t.t
theorem hmT_bd {s : Si} {t : St8} (h : DvB s t) : 0 ≤ hmT s t ∧ hmT s t ≤ 20000 := by
  have h1 := (h.ok.r t.p.toNat (by have := h.pl; omega)).1.1
  have := swF_bd (a := t.t) (fun k hk => (h.ok.u k hk).1.2) h1
  simp only [hmT]
  omega
theorem C104 {s : Si} {t : St8} : DvB s t → PFD Tryz.prog 104 [div s t] (.agg [int (hmT s t), int (hmT s t * s.swim)]) := fun h => by
  have hb := hmT_bd h
  have h1 := h.pl
  have h2 := h.ok.m
  have h3 := (h.ok.r t.p.toNat (by omega)).1.1
  have h4 := h.ok.e
  have c1 := C122 (s := s) (t := t) (n := s.ho.getD t.p.toNat 0) (a := t.t) ⟨by omega, fun k hk => (h.ok.u k hk).1.2, by omega⟩
  obtain ⟨n, hn⟩ : ∃ n, n = hmT s t := ⟨_, rfl⟩
  rw [← hn] at hb ⊢
  change PFD Tryz.prog 122 _ (vi .i64 (hmT s t)) at c1
  rw [← hn] at c1
  have hm := mbd (a := n) (A := 20000) (by omega) (b := s.swim) (B := 10000) (by omega)
  refine pi1 fn104 ?_
  (repeat' first | (refine Owe.same ?_; first | refine Owe.o ?_ | refine Owe.mk ?_ ?_) | (refine Fork.same ?_; (first | refine fkD ?_ ?_ | refine fkN ?_ ?_ | refine fkM ?_ ?_) <;> intro h) | ((first | refine OpsL.same ?_ | refine OpsDL.same ?_); first | refine pK c1 rfl rfl ?_) | refine MvQ.stay ?_)
  (refine rqK rfl ?_; (repeat' first | exact rfl | (refine qS ?_; constructor)))
/-- Whether a state can return. -/
def reB (s : Si) (t : St8) : Bool := decide (s.res ≤ t.w - hmT s t * s.swim ∧ t.t + hmT s t ≤ s.fin)
theorem C70 {s : Si} {t : St8} : DvB s t → PFD Tryz.prog 70 [div s t] (vbl (reB s t)) := fun h => by
  have hb := hmT_bd h
  have h1 := h.tm
  have h2 := h.en
  have h4 := h.ok.e
  have hm := mbd (a := hmT s t) (A := 20000) (by omega) (b := s.swim) (B := 10000) (by omega)
  have c1 := C104 h
  refine pi1 fn70 ?_
  (repeat' first | (refine Owe.same ?_; first | refine Owe.o ?_ | refine Owe.mk ?_ ?_) | (refine Fork.same ?_; (first | refine fkD ?_ ?_ | refine fkN ?_ ?_ | refine fkM ?_ ?_) <;> intro h) | ((first | refine OpsL.same ?_ | refine OpsDL.same ?_); first | refine pK c1 rfl rfl ?_) | refine MvQ.stay ?_)
  · (refine rqK rfl ?_; (repeat' first | exact rfl | (refine qS ?_; constructor)))
    rw [reB]; exact decide_eq_decide.2 ⟨fun hh => ⟨h, hh⟩, fun hh => hh.2⟩
  · (refine rqK rfl ?_; (repeat' first | exact rfl | (refine qS ?_; constructor)))
    have hf : reB s t = false := decide_eq_false fun hh => h hh.1
    exact hf
end Go.Pw

set_option linter.unusedSimpArgs false
set_option linter.unusedVariables false
set_option maxHeartbeats 2000000
namespace Go.Pw
set_option maxRecDepth 2000
open Go Go.Proofs A1 A2 A3 A4
/-- A valid site, and a valid state of it. -/
structure OnOk (s : Si) (t : St8) : Prop where
  ok : SiOk s
  pl : 0 ≤ t.p ∧ t.p < s.ho.length
  tm : isT t.t
  en : 0 ≤ t.w ∧ t.w ≤ 100000000
  oil : isN t.o
  d : (ascE t.d s.tk.length).2 = 0
theorem OnOk.of {s : Si} {t : St8} (h : onE s t = 0) : OnOk s t := by
  rw [onE, fst2, stE] at h
  obtain ⟨h1, h2⟩ := h
  split at h2
  · rename_i h3
    rw [stF, fst3, unl0 (by decide), unl0 (by decide)] at h3
    exact ⟨SiOk.of h1, by omega, by omega, by omega, by omega, h2⟩
  · rename_i h3; exact absurd h2 h3
theorem OnOk.b {s : Si} {t : St8} (h : OnOk s t) : DvB s t := ⟨h.ok, h.pl, by have := h.tm; omega, by have := h.en; omega⟩
/-- A state that is waited until a tick. -/
abbrev wtS (s : Si) (t : St8) (u : Int) : St8 := ⟨t.p, u, t.w - (u - t.t) * s.idle, t.o, t.d⟩
theorem wtS_b {s : Si} {t : St8} {u : Int} (h : OnOk s t) (hu : -1000000 ≤ u ∧ u ≤ 1000000) : DvB s (wtS s t u) := by
  have h1 := h.tm
  have h2 := h.en
  have h3 := h.ok.e
  have hm := mbd (a := u - t.t) (A := 2000000) (by omega) (b := s.idle) (B := 10000) (by omega)
  exact ⟨h.ok, h.pl, hu, by simp only [wtS]; omega⟩
theorem C92 {s : Si} {t : St8} {u : Int} : (OnOk s t ∧ -1000000 ≤ u ∧ u ≤ 1000000) → PFD Tryz.prog 92 [div s t, vi .i64 u] (div s (wtS s t u)) := fun ⟨h, hu⟩ => by
  have h1 := h.tm
  have h2 := h.en
  have h3 := h.ok.e
  have hm := mbd (a := u - t.t) (A := 2000000) (by omega) (b := s.idle) (B := 10000) (by omega)
  refine pi1 fn92 ?_
  (repeat' first | (refine Owe.same ?_; first | refine Owe.o ?_ | refine Owe.mk ?_ ?_) | (refine Fork.same ?_; (first | refine fkD ?_ ?_ | refine fkN ?_ ?_ | refine fkM ?_ ?_) <;> intro h) | refine MvQ.stay ?_)
  (refine rqK rfl ?_; (repeat' first | exact rfl | (refine qS ?_; constructor)))
/-- The last one of so many ticks from its own at which a state that waited can return. -/
def lrD (s : Si) (t : St8) : Nat → Int × Int
  | 0 => (0, 12)
  | n + 1 => if reB s (wtS s t (t.t + n)) = true then (t.t + n, 0) else lrD s t n
def lrE (s : Si) (t : St8) : Int × Int := if onE s t = 0 then lrD s t (s.fin - t.t + 1).toNat else (0, onE s t)
theorem C50 {s : Si} {t : St8} : (SiSm s ∧ t.d.length ≤ 1000000) → PFD Tryz.prog 50 [siv s, stv t] (.tup [vi .i64 (lrE s t).1, vi .i64 (lrE s t).2]) := fun hs => by
  have c1 := C52 hs
  obtain ⟨q, hq⟩ : ∃ q, q = lrE s t := ⟨_, rfl⟩
  rw [← hq]
  rw [lrE] at hq
  refine pi2 fn50 ?_
  (repeat' first | (refine Owe.same ?_; first | refine Owe.o ?_ | refine Owe.mk ?_ ?_) | (refine Fork.same ?_; (first | refine fkD ?_ ?_ | refine fkN ?_ ?_ | refine fkM ?_ ?_) <;> intro h) | ((first | refine OpsL.same ?_ | refine OpsDL.same ?_); first | refine pK c1 rfl rfl ?_) | refine MvQ.stay ?_)
  · rw [if_neg h] at hq; subst hq; (refine rqK rfl ?_; (repeat' first | exact rfl | (refine qS ?_; constructor)))
  · rw [if_pos h] at hq
    have hO := OnOk.of h
    have h1 := hO.tm
    have h2 := hO.ok.e
    refine Sat.lp (fun u : Int => ⟨[(8, vi .i64 u), (6, .c (.bp 0 0))], [(0, .box (diC s t))], 1⟩) (fun u => (u ≤ s.fin ∧ -1 ≤ u) ∧ q = lrD s t (u - t.t + 1).toNat) (fun u => (u - t.t + 1).toNat) s.fin [0] ⟨by omega, hq⟩ ?_ ?_
    · (refine qis ?_ ?_ <;> (repeat' first | exact rfl | (refine qS ?_; constructor)))
    · intro u hu
      refine Fork.dec (fun hlt => ?_) (fun hlt => ?_)
      · have hlt : t.t ≤ u := hlt
        have c2 := C92 (u := u) ⟨hO, by omega⟩
        have c3 := C70 (wtS_b (u := u) hO (by omega))
        obtain ⟨n, hn⟩ : ∃ n : Nat, u = t.t + n := ⟨(u - t.t).toNat, by omega⟩
        have e := hu.2
        rw [show (u - t.t + 1).toNat = n + 1 by omega, lrD, ← hn] at e
        (repeat' first | (refine Owe.same ?_; first | refine Owe.o ?_ | refine Owe.mk ?_ ?_) | (refine Fork.same ?_; (first | refine fkD ?_ ?_ | refine fkN ?_ ?_ | refine fkM ?_ ?_) <;> intro h) | ((first | refine OpsL.same ?_ | refine OpsDL.same ?_); first | refine pK c2 rfl rfl ?_ | refine pK c3 rfl rfl ?_) | refine MvQ.stay ?_)
        · have h : reB s (wtS s t u) = true := decide_eq_true h
          rw [if_pos h] at e; subst e
          (refine rqK rfl ?_; (repeat' first | exact rfl | (refine qS ?_; constructor)))
        · have h : ¬ reB s (wtS s t u) = true := fun hh => h (of_decide_eq_true hh)
          rw [if_neg h] at e
          refine again (u - 1) [0] ⟨by omega, ?_⟩ (by omega) ?_
          · rw [show (u - 1 - t.t + 1).toNat = n by omega]; exact e
          · (refine qis ?_ ?_ <;> (repeat' first | exact rfl | (refine qS ?_; constructor)))
      · have e := hu.2
        have hlt : ¬ t.t ≤ u := hlt
        rw [show (u - t.t + 1).toNat = 0 by omega, lrD] at e
        subst e
        (repeat' first | (refine Owe.same ?_; first | refine Owe.o ?_ | refine Owe.mk ?_ ?_) | (refine Fork.same ?_; (first | refine fkD ?_ ?_ | refine fkN ?_ ?_ | refine fkM ?_ ?_) <;> intro h) | refine MvQ.stay ?_)
        (refine rqK rfl ?_; (repeat' first | exact rfl | (refine qS ?_; constructor)))
end Go.Pw

set_option linter.unusedSimpArgs false
set_option linter.unusedVariables false
set_option maxHeartbeats 2000000
namespace Go.Pw
open Go Go.RowKit Go.Proofs
def insL_ren : Go.Shelf.Ren := ⟨fun | 21 => 124 | 27 => 139 | 28 => 140 | 35 => 142 | 39 => 143 | n => n, fun | 22 => 24 | 3 => 3 | 4 => 4 | 0 => 0 | n => n, fun | n => n⟩
theorem insL : Lays2.n21 Tryz.prog insL_ren := {
  mixed := by kernel_rfl
  f21 := Tryz.func124.trans (congrArg some (by kernel_rfl))
  f27 := Tryz.func139.trans (congrArg some (by kernel_rfl))
  f28 := Tryz.func140.trans (congrArg some (by kernel_rfl))
  f35 := Tryz.func142.trans (congrArg some (by kernel_rfl))
  f39 := Tryz.func143.trans (congrArg some (by kernel_rfl))
  t0 := Tryz.underlying0
  a0 := Tryz.isAgg0
  z0 := Tryz.sizeOf0
  v0 := Tryz.zeroValue0
  t3 := Tryz.underlying3
  a3 := Tryz.isAgg3
  z3 := Tryz.sizeOf3
  v3 := Tryz.zeroValue3
  t4 := Tryz.underlying4
  a4 := Tryz.isAgg4
  z4 := Tryz.sizeOf4
  v4 := Tryz.zeroValue4
  t22 := Tryz.underlying24
  a22 := Tryz.isAgg24
  z22 := Tryz.sizeOf24
  v22 := Tryz.zeroValue24
  i3 := by kernel_rfl }
theorem tape_setCells (b : Nat) : ∀ (vs : List Value) (o : Nat) (w : World), (w.setCells b o vs).tape = w.tape
  | [], _, _ => rfl
  | v :: r, o, w => by rw [World.setCells, tape_setCells b r]; rfl
theorem os_setCells (b : Nat) : ∀ (vs : List Value) (o : Nat) (w : World), (w.setCells b o vs).os = w.os
  | [], _, _ => rfl
  | v :: r, o, w => by rw [World.setCells, os_setCells b r]; rfl
theorem output_setCells (b : Nat) : ∀ (vs : List Value) (o : Nat) (w : World), (w.setCells b o vs).output = w.output
  | [], _, _ => rfl
  | v :: r, o, w => by rw [World.setCells, output_setCells b r]; rfl
theorem size_setCells (b : Nat) : ∀ (vs : List Value) (o : Nat) (w : World), (w.setCells b o vs).heap.size = w.heap.size
  | [], _, _ => rfl
  | v :: r, o, w => by rw [World.setCells, size_setCells b r]; simp [World.setCell]
theorem heapo_setCells (b : Nat) {k : Nat} (hk : k ≠ b) : ∀ (vs : List Value) (o : Nat) (w : World), (w.setCells b o vs).heap[k]? = w.heap[k]?
  | [], _, _ => rfl
  | v :: r, o, w => by
    rw [World.setCells, heapo_setCells b hk r]; simp [World.setCell, Array.getElem?_modify, Ne.symm hk]
theorem alloc_size (w : World) (o : Obj) : (w.alloc o).heap.size = w.heap.size + 1 := by
  show (w.heap.push o).size = _
  simp
theorem get_here {i : Nat} {e : Ent} {σ : Store} : get ((i, e) :: σ) i = some e := by
  have : Nat.beq i i = true := Nat.beq_refl i
  simp only [get, this]
theorem get_next {i j : Nat} {e : Ent} {σ : Store} (h : i ≠ j) : get ((i, e) :: σ) j = get σ j := by
  have : Nat.beq i j = false := by rw [Bool.eq_false_iff]; exact fun h' => h (Nat.eq_of_beq_eq_true h')
  simp only [get, this]
/-- What was made in a block of one's own, or in a new one, is closed. -/
theorem shut_post {Γ : Cx} {w w' : World} {σ : Store} {B cap nx : Nat} {ys : List Int} (hst : StoreOk Γ w σ) (hB : Live Γ σ B ∨ w.heap.size ≤ B) (hB' : B < w'.heap.size) (hle : ys.length ≤ cap)
    (hc : ∀ j, j < ys.length → w'.cell? ⟨B, j, none⟩ = some (.int .i64 (ys.getD j 0))) (hos : w'.os = w.os) (ht : w'.tape = w.tape) (ho : w'.output = w.output) (hsz : w.heap.size ≤ w'.heap.size)
    (hk : ∀ k, k < w.heap.size → k ≠ B → w'.heap[k]? = w.heap[k]?) :
    ∃ u Γ', Ending.returned (.slice (some ⟨B, 0, none⟩) ys.length cap) = Ending.returned u ∧ RepV Γ' w' (.c (ints ys)) u ∧ StoreOk Γ' w' [] ∧ CxLe Γ Γ' ∧ (∀ id, ¬ (nx ≤ id ∧ id < nx) → Γ'.ρ id = Γ.ρ id ∧ Γ'.κ id = Γ.κ id) ∧ Ext 0 Γ w σ Γ' w' [] := by
  have nol : ∀ {Γ' : Cx} {i : Nat}, ¬ LiveId Γ' [] i := fun h => by
    rcases h with ⟨_, h⟩ | ⟨_, _, _, _, h, _⟩ | ⟨_, _, _, _, h⟩ | ⟨_, _, h⟩ <;> cases h
  refine ⟨_, ⟨fun k => Γ.I k ∨ k = B, Γ.ρ, Γ.κ⟩, rfl, .c _ _ (.sl 1 _ _ ⟨B, 0, none⟩ cap (fun i _ => .int .i64 (ys.getD i 0)) hle (.inr rfl) (fun i _ => rfl) (fun i j d hi hd => ?_) (fun i j d hi hd => ?_)), ⟨fun k h => ?_, fun id e h => (by cases h), fun i j k h => absurd h nol⟩, ⟨fun k h => .inl h, fun _ _ h => h, fun _ _ _ => rfl⟩, fun _ _ => ⟨rfl, rfl⟩, ⟨hos, ht, ho, hsz, fun k h => .inl h, fun k h => ?_, fun _ _ => rfl, fun _ _ => rfl, fun k h1 h2 => hk k h1 fun e => ?_, fun k ⟨i, h, _⟩ => absurd h nol⟩⟩
  · have hj : j = 0 := by
      have := (List.getElem?_eq_some_iff.1 hd).1
      simp at this; exact this
    subst hj
    rw [Addr.add_lit, Nat.zero_add, Nat.mul_one, Nat.add_zero]; exact hc i hi
  · have hj : j = 0 := by
      have := (List.getElem?_eq_some_iff.1 hd).1
      simp at this; exact this
    subst hj
    simp only [r1, List.getElem?_cons_zero, Option.some.injEq] at hd
    subst hd
    exact .v _ rfl
  · rcases h with h | rfl
    · exact Nat.lt_of_lt_of_le (hst.im k h) hsz
    · exact hB'
  · rcases h with h | rfl
    · exact .inl h
    · exact .inr hB.symm
  · subst e
    rcases hB with h | h
    · exact h2 h
    · omega
theorem one_row {x : Int} {g : Nat → List D} (hg : g 0 = r1 x) : ∀ i, i < [x].length → g i = r1 ([x].getD i 0) := fun i hi => by
  have hi : i < 1 := hi
  obtain rfl : i = 0 := by omega
  exact hg
/-- A row of numbers of one's own, as it lies. -/
theorem row_lies {Γ : Cx} {w : World} {σ : Store} {a : Nat} {l : List Int} {f : Nat → List D} {u : Value} (hf : ∀ i, i < l.length → f i = r1 (l.getD i 0)) (hst : StoreOk Γ w σ) (hg : get σ a = some (.row 3 1 l.length f false)) (h0 : 0 < l.length) (hu : RepV Γ w (.c (.ms a l.length)) u) :
    ∃ b c xs, Γ.ρ a = some b ∧ u = .slice (some ⟨b, 0, none⟩) l.length c ∧ LiveId Γ σ a ∧ l.length ≤ c ∧ c ≤ maxLen ∧ w.heap[b]? = some (.cells xs 3 (0, 0)) ∧ xs.size = c ∧ ∀ j, j < l.length → xs[j]? = some (.int .i64 (l.getD j 0)) := by
  cases hu with | c _ u hu =>
  obtain ⟨b, hb, ⟨h1, _⟩ | ⟨c, hc, rfl⟩⟩ := hu
  · omega
  · obtain ⟨b', hb', hok⟩ := hst.ok a _ hg
    rw [hb] at hb'; cases hb'
    rcases hok with ⟨h1, _⟩ | ⟨c', hk, _, hI, hn, hm, _, xs, hh, hx, hcell⟩
    · rw [hc] at h1; cases h1
    · rw [hc] at hk; cases hk
      refine ⟨b, c, xs, hb, rfl, .inr (.inl ⟨_, _, _, _, hg, c, hc⟩), hn, hm, hh, by simpa using hx, fun j hj => ?_⟩
      obtain ⟨x, h3, h4⟩ := hcell j 0 (dI (l.getD j 0)) hj (by rw [hf j hj]; rfl)
      rw [Nat.mul_one, Nat.add_zero] at h3
      rw [h3]
      cases h4; rfl
theorem cell_row {w : World} {b : Nat} {xs : Array Value} {t : TypeId} {fr : Nat × Nat} (h : w.heap[b]? = some (.cells xs t fr)) (j : Nat) : w.cell? ⟨b, j, none⟩ = xs[j]? := by
  have := cell_at (off := 0) h j
  rwa [Addr.add_lit, Nat.zero_add] at this
theorem frozen_row {w : World} {b : Nat} {xs : Array Value} {t : TypeId} (h : w.heap[b]? = some (.cells xs t (0, 0))) (j : Nat) : w.frozen? ⟨b, j, none⟩ = false := by
  simp [World.frozen?, h]
theorem shape_row {w : World} {b : Nat} {xs : Array Value} {t : TypeId} (h : w.heap[b]? = some (.cells xs t (0, 0))) : w.shape? b = some (t, xs.size) := by
  simp [World.shape?, h]
abbrev insI (l : List Int) (i : Nat) (x : Int) : List Int := l.take i ++ x :: l.drop i
theorem insI_len {l : List Int} {i : Nat} {x : Int} (hi : i ≤ l.length) : (insI l i x).length = l.length + 1 := by simp [insI]; omega
theorem insI_get {l : List Int} {i : Nat} {x : Int} (hi : i ≤ l.length) (j : Nat) : (insI l i x).getD j 0 = if j < i then l.getD j 0 else if j = i then x else l.getD (j - 1) 0 := by
  simp only [insI, List.getD_eq_getElem?_getD]
  rcases Nat.lt_trichotomy j i with h | h | h
  · rw [if_pos h, List.getElem?_append_left (by simp; omega), List.getElem?_take, if_pos h]
  · subst h
    rw [if_neg (Nat.lt_irrefl _), if_pos rfl, List.getElem?_append_right (by simp; omega), List.length_take, Nat.min_eq_left hi, Nat.sub_self]; rfl
  · rw [if_neg (by omega), if_neg (by omega), List.getElem?_append_right (by simp; omega), List.length_take, Nat.min_eq_left hi, show j - i = (j - i - 1) + 1 by omega, List.getElem?_cons_succ, List.getElem?_drop]
    congr 2; omega
abbrev vsI (l : List Int) : List Value := l.map (.int .i64)
theorem vsI_get {l : List Int} {j : Nat} {v : Value} (h : (vsI l)[j]? = some v) : j < l.length ∧ v = .int .i64 (l.getD j 0) := by
  rw [List.getElem?_map] at h
  have hj : j < l.length := by
    rcases Nat.lt_or_ge j l.length with h1 | h1
    · exact h1
    · rw [List.getElem?_eq_none h1] at h; cases h
  refine ⟨hj, ?_⟩
  rw [List.getElem?_eq_getElem hj] at h
  rw [List.getD_eq_getElem?_getD, List.getElem?_eq_getElem hj]
  simpa using h.symm
theorem sc_get {b o : Nat} {vs : List Value} {w : World} (hs : ∀ j, j < vs.length → (w.cell? ⟨b, o + j, none⟩).isSome = true) (k : Nat) : (w.setCells b o vs).cell? ⟨b, k, none⟩ = if o ≤ k ∧ k < o + vs.length then vs[k - o]? else w.cell? ⟨b, k, none⟩ := by
  split
  · rename_i h
    have := World.cell?_setCells_in b vs o w hs (k - o) (by omega)
    rw [show o + (k - o) = k by omega] at this
    rw [this, List.getElem?_eq_getElem]
  · rename_i h
    exact World.cell?_setCells_out b vs o w _ fun _ _ => by show k < o ∨ o + vs.length ≤ k; omega
theorem vsI_at {l : List Int} {j : Nat} (hj : j < l.length) : (vsI l)[j]? = some (.int .i64 (l.getD j 0)) := by
  rw [List.getElem?_map, List.getElem?_eq_getElem hj, List.getD_eq_getElem?_getD, List.getElem?_eq_getElem hj]; rfl
theorem vsI_one {l : List Int} : ∀ v ∈ vsI l, v.oneCell' = true := fun v hv => by
  obtain ⟨n, _, rfl⟩ := List.mem_map.1 hv; rfl
theorem C124 {l : List Int} {i : Nat} {x : Int} {a b nx : Nat} {f g : Nat → List D} (hf : ∀ i, i < l.length → f i = r1 (l.getD i 0)) (hg : g 0 = r1 x) (hab : a ≠ b) (hi : i ≤ l.length) (h0 : 0 < l.length) (hl : l.length ≤ 1000000) :
    CallD Tryz.prog 124 [.c (.ms a l.length), vi .i64 i, .c (.ms b 1)] [(a, .row 3 1 l.length f false), (b, .row 3 1 1 g false)] nx (.c (ints (insI l i x))) [] nx := by
  obtain ⟨hent, _⟩ := fn124
  refine ⟨hent, Nat.le_refl _, fun Γ w us hst _ hr => ?_⟩
  obtain ⟨us⟩ := us
  obtain ⟨u0, u1, u2, rfl⟩ : ∃ u0 u1 u2, us = [u0, u1, u2] := by
    have := hr.1
    match us, this with
    | [u0, u1, u2], _ => exact ⟨_, _, _, rfl⟩
  have q0 := hr.2 0 _ u0 rfl rfl
  have q1 := (hr.2 1 _ u1 rfl rfl).int
  have q2 := hr.2 2 _ u2 rfl rfl
  subst q1
  obtain ⟨ba, c, xs, hρa, rfl, hla, hn, hcm, hh, hx, hcell⟩ := row_lies hf hst get_here h0 q0
  obtain ⟨bb, c2, xs2, hρb, rfl, hlb, hn2, hcm2, hh2, hx2, hcell2⟩ := row_lies (l := [x]) (one_row hg) hst (by rw [get_next hab]; exact get_here) (by simp) q2
  have hne : bb ≠ ba := fun e => hab (hst.inj a b ba hla hlb hρa (e ▸ hρb))
  have hlive : Live Γ [(a, .row 3 1 l.length f false), (b, .row 3 1 1 g false)] ba := ⟨a, hla, hρa⟩
  have hlt : ba < w.heap.size := (Array.getElem?_eq_some_iff.1 hh).1
  have hcs : ∀ j v, (vsI l)[j]? = some v → w.cell? ⟨ba, 0 + j, none⟩ = some v := fun j v hj => by
    obtain ⟨h1, rfl⟩ := vsI_get hj
    rw [Nat.zero_add, cell_row hh, hcell j h1]
  have hvs : ∀ j v, (vsI [x])[j]? = some v → w.cell? ⟨bb, 0 + j, none⟩ = some v := fun j v hj => by
    obtain ⟨h1, rfl⟩ := vsI_get hj
    rw [Nat.zero_add, cell_row hh2, hcell2 j h1]
  have hsome : ∀ j, j < c → (w.cell? ⟨ba, j, none⟩).isSome = true := fun j hj => by
    rw [cell_row hh, Array.getElem?_eq_getElem (by omega)]; rfl
  have hcl : (vsI l).length = l.length := by simp
  have hdl : ((vsI l).drop i).length = l.length - i := by rw [List.length_drop, hcl]
  have hcm' : c ≤ 9223372036854775807 := by unfold maxLen at hcm; omega
  have hil := insI_len (x := x) hi
  have hfin : ∀ {j : Nat} {z : Option Value}, (j < i → z = some (.int .i64 (l.getD j 0))) → ∀ (k : Nat), k < l.length + 1 → k = j → (if 0 + i ≤ j ∧ j < 0 + i + (vsI [x]).length then (vsI [x])[j - (0 + i)]? else if 0 + (i + 1) ≤ j ∧ j < 0 + (i + 1) + ((vsI l).drop i).length then ((vsI l).drop i)[j - (0 + (i + 1))]? else z) = some (.int .i64 (if j < i then l.getD j 0 else if j = i then x else l.getD (j - 1) 0)) := fun {j z} hz k hk e => by
    subst e
    rcases Nat.lt_trichotomy k i with h | h | h
    · rw [if_neg (by omega), if_neg (by omega), if_pos h, hz h]
    · rw [if_pos ⟨by omega, by show k < 0 + i + 1; omega⟩, if_neg (by omega), if_pos h, show k - (0 + i) = 0 by omega]; rfl
    · rw [if_neg (by rintro ⟨_, h2⟩; have h2 : k < 0 + i + 1 := h2; omega), if_pos ⟨by omega, by rw [hdl]; omega⟩, if_neg (by omega), if_neg (by omega), List.getElem?_drop, vsI_at (by omega), show i + (k - (0 + (i + 1))) = k - 1 by omega]
  rcases Nat.lt_or_ge i l.length with hin | hin
  · rcases Nat.lt_or_ge c (l.length + 1) with hroom | hroom
    · have h := Any2.slices_Insert_int_grow insL ba 0 l.length c i bb 0 1 c2 (vsI l) (vsI [x]) w hin (by decide) hn hroom (by omega) hcl rfl hcs hvs vsI_one vsI_one
      refine h.mono fun e w' ⟨he, hw⟩ => ?_
      obtain ⟨A, hA⟩ : ∃ A, A = (((vsI l).take i).toArray ++ Builtin.zeroCells (Value.int .i64 0).cells (l.length + 1 - i) ++ Builtin.zeroCells (Value.int .i64 0).cells (grownCap w (l.length + 1) c (insL_ren.t 3) - (l.length + 1))) := ⟨_, rfl⟩
      rw [← hA] at hw
      have hz1 : (Value.int .i64 0).cells.size = 1 := rfl
      have hAs : l.length + 1 ≤ A.size := by
        rw [hA, Array.size_append, Array.size_append, zeroCells_size, zeroCells_size, hz1, List.size_toArray, List.length_take, hcl]; omega
      have hAt : ∀ j, j < i → A[j]? = some (.int .i64 (l.getD j 0)) := fun j hj => by
        rw [hA, Array.append_assoc, Array.getElem?_append_left (by rw [List.size_toArray, List.length_take, hcl]; omega), List.getElem?_toArray, List.getElem?_take, if_pos hj, vsI_at (by omega)]
      obtain ⟨W, hW⟩ : ∃ W, W = (w.alloc (.cells A (insL_ren.t 3))).drew := ⟨_, rfl⟩
      rw [← hW] at hw
      have hWc : ∀ j, W.cell? ⟨w.heap.size, j, none⟩ = A[j]? := fun j => by rw [hW]; exact World.cell?_alloc_new w A (insL_ren.t 3) j
      have hWs : ∀ j, j < l.length + 1 → (W.cell? ⟨w.heap.size, j, none⟩).isSome = true := fun j hj => by rw [hWc, Array.getElem?_eq_getElem (by omega)]; rfl
      have hWz : W.heap.size = w.heap.size + 1 := by rw [hW]; exact alloc_size w _
      have hs1 : ∀ j, j < (vsI [x]).length → (W.cell? ⟨w.heap.size, i + j, none⟩).isSome = true := fun j hj => hWs _ (by have : j < 1 := hj; omega)
      have hs2 : ∀ j, j < ((vsI l).drop i).length → ((W.setCells w.heap.size i (vsI [x])).drew.cell? ⟨w.heap.size, i + 1 + j, none⟩).isSome = true := fun j hj => isSome_setCells w.heap.size _ _ _ hs1 _ (hWs _ (by omega))
      have := shut_post (w' := w') (nx := nx) (ys := insI l i x) (B := w.heap.size) (cap := grownCap w (l.length + 1) c (insL_ren.t 3)) hst (.inr (Nat.le_refl _)) (by rw [hw, size_setCells]; show _ < (W.setCells _ _ _).heap.size; rw [size_setCells, hWz]; omega) (by rw [hil]; exact grownCap_ge w _ _ _) (fun j hj => ?_) (by rw [hw, os_setCells]; show (W.setCells _ _ _).os = _; rw [os_setCells, hW]; rfl) (by rw [hw, tape_setCells]; show (W.setCells _ _ _).tape = _; rw [tape_setCells, hW]; rfl) (by rw [hw, output_setCells]; show (W.setCells _ _ _).output = _; rw [output_setCells, hW]; rfl) (by rw [hw, size_setCells]; show _ ≤ (W.setCells _ _ _).heap.size; rw [size_setCells, hWz]; omega) (fun k hk hkb => by rw [hw, heapo_setCells _ hkb]; show (W.setCells _ _ _).heap[k]? = _; rw [heapo_setCells _ hkb, hW]; exact heap_alloc (w := w) hk)
      · rw [hil] at this
        rw [he]; exact this
      · rw [hw, sc_get hs2, insI_get hi]
        rcases Nat.lt_trichotomy j i with h | h | h
        · rw [if_neg (by omega), if_pos h]
          show (W.setCells w.heap.size i (vsI [x])).cell? _ = _
          rw [sc_get hs1, if_neg (by omega), hWc, hAt j h]
        · rw [if_neg (by omega), if_neg (by omega), if_pos h]
          show (W.setCells w.heap.size i (vsI [x])).cell? _ = _
          rw [sc_get hs1, if_pos ⟨by omega, by show j < i + 1; omega⟩, show j - i = 0 by omega]; rfl
        · rw [if_pos ⟨by omega, by rw [hdl]; omega⟩, if_neg (by omega), if_neg (by omega), List.getElem?_drop, vsI_at (by omega), show i + (j - (i + 1)) = j - 1 by omega]
    · have h := Any2.slices_Insert_int_shift insL ba 0 l.length c i bb 0 1 c2 (vsI l) (vsI [x]) w hin (by decide) hroom hcm' hne hcl rfl hcs (fun j hj => by rw [Nat.zero_add]; exact hsome j (by omega)) (fun j _ => frozen_row hh _) hvs vsI_one vsI_one 3 3 xs2.size xs.size (shape_row hh2) (shape_row hh) (by omega) (frozen_row hh2 _) (frozen_row hh2 _)
      refine h.mono fun e w' ⟨he, hw⟩ => ?_
      have hs1 : ∀ j, j < ((vsI l).drop i).length → (w.drew.cell? ⟨ba, 0 + (i + 1) + j, none⟩).isSome = true := fun j hj => hsome _ (by omega)
      have hs2 : ∀ j, j < (vsI [x]).length → ((w.drew.setCells ba (0 + (i + 1)) ((vsI l).drop i)).cell? ⟨ba, 0 + i + j, none⟩).isSome = true := fun j hj => by
        refine isSome_setCells ba _ _ _ hs1 _ (hsome _ ?_)
        have : j < 1 := hj
        omega
      have := shut_post (w' := w') (nx := nx) (ys := insI l i x) (B := ba) (cap := c) hst (.inl hlive) (by rw [hw, size_setCells, size_setCells]; exact hlt) (by omega) (fun j hj => ?_) (by rw [hw, os_setCells, os_setCells]; rfl) (by rw [hw, tape_setCells, tape_setCells]; rfl) (by rw [hw, output_setCells, output_setCells]; rfl) (by rw [hw, size_setCells, size_setCells]; exact Nat.le_refl _) (fun k hk hkb => by rw [hw, heapo_setCells ba hkb, heapo_setCells ba hkb]; rfl)
      · rw [hil] at this
        rw [he]; exact this
      · rw [hw, sc_get hs2, sc_get hs1, insI_get hi]
        exact hfin (fun h => by show w.cell? _ = _; rw [cell_row hh, hcell j (by omega)]) j (by omega) rfl
  · obtain rfl : i = l.length := by omega
    rcases Nat.lt_or_ge c (l.length + 1) with hroom | hroom
    · have h := Any2.slices_Insert_int_end_grow insL (some ⟨ba, 0, none⟩) l.length c bb 0 1 c2 (vsI l) (vsI [x]) w (by decide) hn hroom (by omega) hcl rfl (fun h => by cases h) (fun a h j v hj => by cases h; rw [Addr.add_lit]; exact hcs j v hj) hvs vsI_one
      refine h.mono fun e w' ⟨he, hw⟩ => ?_
      have := shut_post (w' := w') (nx := nx) (ys := insI l l.length x) (B := w.heap.size) (cap := grownCap w (l.length + 1) c (insL_ren.t 3)) hst (.inr (Nat.le_refl _)) (by rw [hw, alloc_size]; exact Nat.lt_succ_self _) (by rw [hil]; exact grownCap_ge w _ _ _) (fun j hj => ?_) (by rw [hw]; rfl) (by rw [hw]; rfl) (by rw [hw]; rfl) (by rw [hw, alloc_size]; exact Nat.le_succ _) (fun k hk hkb => by rw [hw]; exact heap_alloc (w := w.drew) hk)
      · rw [hil] at this
        rw [he]; exact this
      · rw [hw, insI_get hi]
        refine (World.cell?_alloc_new w.drew _ _ j).trans ?_
        rw [Array.getElem?_append_left (by rw [List.size_toArray, List.length_append, hcl]; show j < l.length + 1; omega), List.getElem?_toArray]
        rcases Nat.lt_or_ge j l.length with h3 | h3
        · rw [List.getElem?_append_left (by rw [hcl]; exact h3), if_pos h3, vsI_at h3]
        · rw [List.getElem?_append_right (by rw [hcl]; exact h3), if_neg (by omega), if_pos (by omega), hcl, show j - l.length = 0 by omega]; rfl
    · have h := Any2.slices_Insert_int_end_room insL ba 0 l.length c bb 0 1 c2 (vsI [x]) w (by decide) hroom hcm' rfl (fun j hj => by rw [Nat.zero_add]; exact hsome _ (by omega)) (fun j _ => frozen_row hh _) hvs vsI_one
      refine h.mono fun e w' ⟨he, hw⟩ => ?_
      have hs1 : ∀ j, j < (vsI [x]).length → (w.cell? ⟨ba, 0 + l.length + j, none⟩).isSome = true := fun j hj => hsome _ (by have : j < 1 := hj; omega)
      have := shut_post (w' := w') (nx := nx) (ys := insI l l.length x) (B := ba) (cap := c) hst (.inl hlive) (by rw [hw, size_setCells]; exact hlt) (by omega) (fun j hj => ?_) (by rw [hw, os_setCells]) (by rw [hw, tape_setCells]) (by rw [hw, output_setCells]) (by rw [hw, size_setCells]; exact Nat.le_refl _) (fun k hk hkb => by rw [hw, heapo_setCells ba hkb])
      · rw [hil] at this
        rw [he]; exact this
      · rw [hw, sc_get hs1, insI_get hi]
        split
        · rename_i h1
          have h2 : j < 0 + l.length + 1 := h1.2
          rw [if_neg (by omega), if_pos (by omega), show j - (0 + l.length) = 0 by omega]; rfl
        · rename_i h1
          have h2 : j < l.length := by
            rcases Nat.lt_or_ge j l.length with h3 | h3
            · exact h3
            · exact absurd ⟨by omega, by show j < 0 + l.length + 1; omega⟩ h1
          rw [if_pos h2, cell_row hh, hcell j h2]
end Go.Pw

set_option linter.unusedSimpArgs false
set_option linter.unusedVariables false
set_option maxHeartbeats 2000000
namespace Go.Pw
open Go Go.RowKit Go.Proofs
def kloL_ren : Go.Shelf.Ren := ⟨fun | 15 => 80 | n => n, fun | 22 => 24 | 3 => 3 | 4 => 4 | n => n, fun | n => n⟩
theorem kloL : Lays2.n15 Tryz.prog kloL_ren := {
  mixed := by kernel_rfl
  f15 := Tryz.func80.trans (congrArg some (by kernel_rfl))
  t3 := Tryz.underlying3
  a3 := Tryz.isAgg3
  z3 := Tryz.sizeOf3
  v3 := Tryz.zeroValue3
  t4 := Tryz.underlying4
  a4 := Tryz.isAgg4
  z4 := Tryz.sizeOf4
  v4 := Tryz.zeroValue4
  t22 := Tryz.underlying24
  a22 := Tryz.isAgg24
  z22 := Tryz.sizeOf24
  v22 := Tryz.zeroValue24
  i3 := by kernel_rfl }
/-- What was made in a new block, under a new name. -/
theorem own_post {Γ : Cx} {w w' : World} {nx : Nat} {v : Value} {l : List Int} (hst : StoreOk Γ w []) (hid : Γ.ρ nx = none) (hown : w'.ownsRow w.heap.size 3 1 v l.length (vsI l)) (hnil : v ≠ .slice none 0 0) (hB : Below w.heap.size w w') :
    ∃ Γ', RepV Γ' w' (.c (.ms nx l.length)) v ∧ StoreOk Γ' w' [(nx, rowv 3 1 r1 0 l)] ∧ CxLe Γ Γ' ∧ (∀ id, ¬ (nx ≤ id ∧ id < nx + 1) → Γ'.ρ id = Γ.ρ id ∧ Γ'.κ id = Γ.κ id) ∧ Ext 0 Γ w [] Γ' w' [(nx, rowv 3 1 r1 0 l)] := by
  obtain ⟨_, ⟨h, _⟩ | ⟨g, cap, cur, rfl, hg, hh, hn, hc, hs, ht⟩⟩ := hown
  · exact absurd h hnil
  · have hnI : ¬ Γ.I g := fun hI => by have := hst.im _ hI; omega
    have hnL : ¬ Live Γ [] g := fun hl => by have := hst.live_lt hl; omega
    have he : EntOk (Γ.upd nx g (some cap)) w' nx g (rowv 3 1 r1 0 l) :=
      .inr ⟨cap, upd_κ_same, (fun hf => by cases hf), fun _ => hnI, hn, hc, fun _ _ => rfl, cur, hh, hs, fun i j d hi hd => by
        have hj : j = 0 := by
          have := (List.getElem?_eq_some_iff.1 hd).1
          simp at this; exact this
        subst hj
        simp only [r1, List.getElem?_cons_zero, Option.some.injEq] at hd
        subst hd
        refine ⟨.int .i64 (l.getD i 0), ?_, .v _ rfl⟩
        have h1 := vsI_at hi
        rw [← ht, List.getElem?_take, Nat.mul_one, if_pos hi] at h1
        rw [Nat.mul_one, Nat.add_zero]
        simpa using h1⟩
    refine ⟨Γ.upd nx g (some cap), .c _ _ ⟨_, upd_ρ_same, .inr ⟨_, upd_κ_same, rfl⟩⟩, hst.fresh hid hB.size (fun k hk _ => hB.block k hk) (fun _ => hnL) (.inr ⟨hnI, hnL⟩) he, CxLe.upd _ _ _ hid, fun id h => ⟨upd_ρ (by omega), upd_κ (by omega)⟩,
      Ext.grow (Γ := Γ) (w := w) (w' := w') (fun i hi => upd_ρ (by omega)) (fun i hi => upd_κ (by omega)) (fun _ h => h) (fun _ h => .inl h) hB.os hB.tape hB.output hB.size (fun k hk _ => hB.block k hk) _ (fun k hk => ?_)⟩
    rcases live_fresh hst hid hk with h1 | ⟨rfl, _⟩
    · exact .inl h1
    · exact .inr hg
theorem C80 {l : List Int} {nx : Nat} (hl : l.length ≤ 1000000) : CallD Tryz.prog 80 [.c (ints l)] [] nx (.c (.ms nx l.length)) [(nx, rowv 3 1 r1 0 l)] (nx + 1) := by
  obtain ⟨hent, _⟩ := fn80
  refine ⟨hent, Nat.le_succ _, fun Γ w us hst hno hr => ?_⟩
  obtain ⟨us⟩ := us
  obtain ⟨u0, rfl⟩ : ∃ u0, us = [u0] := by
    have := hr.1
    match us, this with
    | [u0], _ => exact ⟨_, rfl⟩
  have q0 := hr.2 0 _ u0 rfl rfl
  have hid := hno nx (Nat.le_refl _) (Nat.lt_succ_self _)
  cases q0 with | c _ u h =>
  have h : RepD Γ.I w (.sl 1 l.length fun i => r1 (l.getD i 0)) u0 := h
  generalize hd : D.sl 1 l.length (fun i => r1 (l.getD i 0)) = d at h
  cases h with
  | v x h => cases hd
  | slE s f A c =>
    simp only [D.sl.injEq] at hd
    obtain ⟨_, h0, _⟩ := hd
    obtain rfl := List.length_eq_zero_iff.1 h0
    cases A with
    | none =>
      refine (Any.slices_Clone_int_nil kloL 0 c w).mono fun e w' ⟨he, hw⟩ => ?_
      subst hw
      obtain ⟨h1, h2⟩ := name_nil (base := 0) hst hid (Nat.zero_le _) 3 1 (fun i => r1 (([] : List Int).getD i 0))
      exact ⟨_, _, he, .c _ _ ⟨_, upd_ρ_same, .inl ⟨rfl, upd_κ_same, rfl⟩⟩, h1, CxLe.upd _ _ _ hid, fun id h => ⟨upd_ρ (by omega), upd_κ (by omega)⟩, h2⟩
    | some a =>
      refine (Any.slices_Clone_int_zero kloL a c w).mono fun e w' ⟨v', he, hown, hnil, hB⟩ => ?_
      obtain ⟨Γ', h1, h2, h3, h4, h5⟩ := own_post (l := []) hst hid hown hnil hB
      exact ⟨_, Γ', he, h1, h2, h3, h4, h5⟩
  | sl s n f ad c U hn hI hs hc hr' =>
    simp only [D.sl.injEq] at hd
    obtain ⟨rfl, rfl, rfl⟩ := hd
    have hcell : ∀ j, j < l.length → w.cell? (ad.add j) = some (.int .i64 (l.getD j 0)) := fun j hj => by
      have h1 := hc j 0 (dI (l.getD j 0)) hj rfl
      have h2 := hr' j 0 (dI (l.getD j 0)) hj rfl
      rw [Nat.mul_one, Nat.add_zero] at h1
      rw [h1]
      generalize U j 0 = u at h2
      cases h2; rfl
    rcases Nat.eq_zero_or_pos l.length with h0 | h0
    · obtain rfl := List.length_eq_zero_iff.1 h0
      refine (Any.slices_Clone_int_zero kloL ad c w).mono fun e w' ⟨v', he, hown, hnil, hB⟩ => ?_
      obtain ⟨Γ', h1, h2, h3, h4, h5⟩ := own_post (l := []) hst hid hown hnil hB
      exact ⟨_, Γ', he, h1, h2, h3, h4, h5⟩
    · obtain ⟨b, off, sp⟩ := ad
      have hsp : sp = none := by
        have := hcell 0 h0
        rw [add_zero] at this
        cases sp with
        | none => rfl
        | some x =>
          simp only [World.cell?] at this
          split at this <;> simp at this
      subst hsp
      refine (Any.slices_Clone_int kloL b off l.length c l w (Nat.le_refl _) (by omega) (fun j hj => by have := hcell j hj; rwa [Addr.add_lit] at this)).mono fun e w' ⟨v', he, hown, hnil, hB⟩ => ?_
      rw [List.take_of_length_le (Nat.le_refl _)] at hown
      obtain ⟨Γ', h1, h2, h3, h4, h5⟩ := own_post (l := l) hst hid hown hnil hB
      exact ⟨_, Γ', he, h1, h2, h3, h4, h5⟩
/-- Into an empty row of one's own. -/
theorem C124e {x : Int} {a b nx : Nat} {f g : Nat → List D} (hg : g 0 = r1 x) (hab : a ≠ b) :
    CallD Tryz.prog 124 [.c (.ms a 0), vi .i64 0, .c (.ms b 1)] [(a, .row 3 1 0 f false), (b, .row 3 1 1 g false)] nx (.c (ints [x])) [] nx := by
  obtain ⟨hent, _⟩ := fn124
  refine ⟨hent, Nat.le_refl _, fun Γ w us hst _ hr => ?_⟩
  obtain ⟨us⟩ := us
  obtain ⟨u0, u1, u2, rfl⟩ : ∃ u0 u1 u2, us = [u0, u1, u2] := by
    have := hr.1
    match us, this with
    | [u0, u1, u2], _ => exact ⟨_, _, _, rfl⟩
  have q0 := hr.2 0 _ u0 rfl rfl
  have q1 := (hr.2 1 _ u1 rfl rfl).int
  have q2 := hr.2 2 _ u2 rfl rfl
  subst q1
  obtain ⟨bb, c2, xs2, hρb, rfl, hlb, hn2, hcm2, hh2, hx2, hcell2⟩ := row_lies (l := [x]) (one_row hg) hst (by rw [get_next hab]; exact get_here) (by simp) q2
  have hvs : ∀ j v, (vsI [x])[j]? = some v → w.cell? ⟨bb, 0 + j, none⟩ = some v := fun j v hj => by
    obtain ⟨h1, rfl⟩ := vsI_get hj
    rw [Nat.zero_add, cell_row hh2, hcell2 j h1]
  have grow : ∀ (base : Option Addr) (c : Nat), c = 0 → Calls Tryz.prog 124 #[.slice base 0 c, .int .i64 0, .slice (some ⟨bb, 0, none⟩) 1 c2] w fun e w' => ∃ u Γ', e = .returned u ∧ RepV Γ' w' (.c (ints [x])) u ∧ StoreOk Γ' w' [] ∧ CxLe Γ Γ' ∧ (∀ id, ¬ (nx ≤ id ∧ id < nx) → Γ'.ρ id = Γ.ρ id ∧ Γ'.κ id = Γ.κ id) ∧ Ext 0 Γ w [(a, .row 3 1 0 f false), (b, .row 3 1 1 g false)] Γ' w' [] := fun base c hc0 => by
    subst hc0
    have h := Any2.slices_Insert_int_end_grow insL base 0 0 bb 0 1 c2 [] (vsI [x]) w (by decide) (Nat.le_refl _) (by decide) (by decide) rfl rfl (fun _ => rfl) (fun a h j v hj => by cases hj) hvs vsI_one
    refine h.mono fun e w' ⟨he, hw⟩ => ?_
    have := shut_post (w' := w') (nx := nx) (ys := [x]) (B := w.heap.size) (cap := grownCap w (0 + 1) 0 (insL_ren.t 3)) hst (.inr (Nat.le_refl _)) (by rw [hw, alloc_size]; exact Nat.lt_succ_self _) (grownCap_ge w _ _ _) (fun j hj => ?_) (by rw [hw]; rfl) (by rw [hw]; rfl) (by rw [hw]; rfl) (by rw [hw, alloc_size]; exact Nat.le_succ _) (fun k hk hkb => by rw [hw]; exact heap_alloc (w := w.drew) hk)
    · rw [he]; exact this
    · have hj : j < 1 := hj
      obtain rfl : j = 0 := by omega
      rw [hw]
      refine (World.cell?_alloc_new w.drew _ _ 0).trans ?_
      rw [Array.getElem?_append_left (by simp)]; rfl
  cases q0 with | c _ u h =>
  obtain ⟨ba, hρa, ⟨_, _, rfl⟩ | ⟨c, hκ, rfl⟩⟩ := h
  · exact grow none 0 rfl
  · rcases Nat.eq_zero_or_pos c with hc0 | hc0
    · exact grow _ c hc0
    · obtain ⟨b', hb', hok⟩ := hst.ok a _ get_here
      rw [hρa] at hb'; cases hb'
      rcases hok with ⟨h1, _⟩ | ⟨c', hk, _, hI, hn, hm, _, xs, hh, hx, hcell⟩
      · rw [hκ] at h1; cases h1
      · rw [hκ] at hk; cases hk
        have hla : LiveId Γ [(a, .row 3 1 0 f false), (b, .row 3 1 1 g false)] a := .inr (.inl ⟨_, _, _, _, get_here, c, hκ⟩)
        have hlt : ba < w.heap.size := (Array.getElem?_eq_some_iff.1 hh).1
        have hs1 : ∀ j, j < (vsI [x]).length → (w.cell? ⟨ba, 0 + 0 + j, none⟩).isSome = true := fun j hj => by
          have hj : j < 1 := hj
          rw [cell_row hh, Array.getElem?_eq_getElem (by omega)]; rfl
        have h := Any2.slices_Insert_int_end_room insL ba 0 0 c bb 0 1 c2 (vsI [x]) w (by decide) (by omega) (by unfold maxLen at hm; omega) rfl hs1 (fun j _ => frozen_row hh _) hvs vsI_one
        refine h.mono fun e w' ⟨he, hw⟩ => ?_
        have := shut_post (w' := w') (nx := nx) (ys := [x]) (B := ba) (cap := c) hst (.inl ⟨a, hla, hρa⟩) (by rw [hw, size_setCells]; exact hlt) hc0 (fun j hj => ?_) (by rw [hw, os_setCells]) (by rw [hw, tape_setCells]) (by rw [hw, output_setCells]) (by rw [hw, size_setCells]; exact Nat.le_refl _) (fun k hk hkb => by rw [hw, heapo_setCells ba hkb])
        · rw [he]; exact this
        · have hj : j < 1 := hj
          obtain rfl : j = 0 := by omega
          rw [hw, sc_get hs1, if_pos ⟨by omega, by show 0 < 0 + 0 + 1; omega⟩]; rfl
/-- Into a row of one's own. -/
theorem C124m {l : List Int} {i : Nat} {x : Int} {a b nx : Nat} {f g : Nat → List D} (hf : ∀ i, i < l.length → f i = r1 (l.getD i 0)) (hg : g 0 = r1 x) (hab : a ≠ b) (hi : i ≤ l.length) (hl : l.length ≤ 1000000) :
    CallD Tryz.prog 124 [.c (.ms a l.length), vi .i64 i, .c (.ms b 1)] [(a, .row 3 1 l.length f false), (b, .row 3 1 1 g false)] nx (.c (ints (insI l i x))) [] nx := by
  rcases Nat.eq_zero_or_pos l.length with h0 | h0
  · obtain rfl := List.length_eq_zero_iff.1 h0
    obtain rfl : i = 0 := by simpa using hi
    exact C124e hg hab
  · exact C124 hf hg hab hi h0 hl
end Go.Pw

set_option linter.unusedSimpArgs false
set_option linter.unusedVariables false
set_option maxHeartbeats 2000000
namespace Go.Pw
set_option maxRecDepth 2000
open Go Go.Proofs A1 A2 A3 A4
/-- How many numbers at the beginning are smaller. -/
def bsI (x : Int) : List Int → Nat
  | [] => 0
  | y :: l => if y < x then bsI x l + 1 else 0
abbrev Srt (l : List Int) : Prop := ∀ i, i + 1 < l.length → l.getD i 0 < l.getD (i + 1) 0
theorem Srt.lt {l : List Int} (h : Srt l) {i : Nat} : ∀ {j : Nat}, i < j → j < l.length → l.getD i 0 < l.getD j 0
  | 0, h1, _ => by omega
  | j + 1, h1, h2 => by
    rcases Nat.lt_or_ge i j with h3 | h3
    · exact Int.lt_trans (Srt.lt h h3 (by omega)) (h j h2)
    · obtain rfl : i = j := by omega
      exact h i h2
theorem Srt.tail {y : Int} {l : List Int} (h : Srt (y :: l)) : Srt l := fun i hi => by
  have := h (i + 1) (by simp; omega)
  simpa using this
theorem bsI_le (x : Int) : ∀ l : List Int, bsI x l ≤ l.length
  | [] => Nat.le_refl _
  | y :: l => by
    rw [bsI]
    split
    · have := bsI_le x l; simp; omega
    · exact Nat.zero_le _
theorem bsI_lt (x : Int) : ∀ {l : List Int} {j : Nat}, j < bsI x l → l.getD j 0 < x
  | [], j, h => by cases h
  | y :: l, j, h => by
    rw [bsI] at h
    split at h
    · rename_i h1
      cases j with
      | zero => exact h1
      | succ j => simpa using bsI_lt x (l := l) (j := j) (by omega)
    · cases h
theorem bsI_ge (x : Int) : ∀ {l : List Int} {j : Nat}, Srt l → bsI x l ≤ j → j < l.length → x ≤ l.getD j 0
  | [], j, _, _, h => by cases h
  | y :: l, j, hs, h, hj => by
    rw [bsI] at h
    split at h
    · cases j with
      | zero => omega
      | succ j => simpa using bsI_ge x (l := l) (j := j) hs.tail (by omega) (by simpa using hj)
    · rename_i h1
      cases j with
      | zero => simp; omega
      | succ j =>
        have := hs.lt (i := 0) (j := j + 1) (by omega) hj
        simp at this ⊢; omega
theorem bsI_eq {x : Int} {l : List Int} {k : Nat} (hs : Srt l) (hk : k ≤ l.length) (h1 : ∀ j, j < k → l.getD j 0 < x) (h2 : ∀ j, k ≤ j → j < l.length → x ≤ l.getD j 0) : bsI x l = k := by
  have h3 := bsI_le x l
  rcases Nat.lt_trichotomy (bsI x l) k with h | h | h
  · have := h1 _ h
    have := bsI_ge x hs (Nat.le_refl _) (by omega)
    omega
  · exact h
  · have := bsI_lt x h
    have := h2 k (Nat.le_refl _) (by omega)
    omega
theorem C123 {l : List Int} {x : Int} : (Srt l ∧ l.length ≤ 1000000) → PFD Tryz.prog 123 [.c (ints l), vi .i64 x] (.tup [vi .i64 (bsI x l), vbl (decide ((bsI x l : Int) < l.length ∧ l.getD (bsI x l) 0 = x))]) := fun ⟨hs, hl⟩ => by
  refine pi2 fn123 ?_
  (repeat' first | (refine Owe.same ?_; first | refine Owe.o ?_ | refine Owe.mk ?_ ?_) | (refine Fork.same ?_; (first | refine fkD ?_ ?_ | refine fkN ?_ ?_ | refine fkM ?_ ?_) <;> intro h) | refine MvQ.stay ?_)
  refine Sat.lp0 (fun p : Nat × Nat => [(7, vi .i64 p.1), (8, vi .i64 p.2), (6, vi .i64 l.length), (0, .c (ints l)), (1, vi .i64 x)]) (fun p => p.1 ≤ p.2 ∧ p.2 ≤ l.length ∧ (∀ j, j < p.1 → l.getD j 0 < x) ∧ ∀ j, p.2 ≤ j → j < l.length → x ≤ l.getD j 0) (fun p => p.2 - p.1) (0, l.length) ⟨Nat.zero_le _, Nat.le_refl _, fun j hj => by omega, fun j h1 h2 => by simp only at h1; omega⟩ (by ((first | refine qen ?_ | refine qvs ?_ | refine qeq ?_ | refine qst ?_ | refine qv ?_ | refine qc ?_ | refine qe ?_ | refine qcs ?_ | skip); (repeat' first | exact rfl | (refine qS ?_; constructor)))) ?_
  intro ⟨i, k⟩ ⟨hik, hk, h1, h2⟩
  simp only at hik hk h1 h2
  refine Fork.dec (fun hlt => ?_) (fun hlt => ?_)
  · have hlt : i < k := by simpa using hlt
    obtain ⟨m, hm⟩ : ∃ m : Nat, (IntKind.u64.wrap ((i : Int) + (k : Int))).fdiv (2 ^ min (Int.toNat 1) IntKind.u64.bits) = (m : Int) ∧ m = (i + k) / 2 := by
      refine ⟨(i + k) / 2, ?_, rfl⟩
      have e1 : IntKind.u64.wrap ((i : Int) + (k : Int)) = ((i + k : Nat) : Int) := by
        rw [show (i : Int) + (k : Int) = ((i + k : Nat) : Int) by omega]
        simp [IntKind.wrap, IntKind.bits, IntKind.signed]; omega
      rw [e1, show (2 : Int) ^ min (Int.toNat 1) IntKind.u64.bits = 2 by decide, Int.fdiv_eq_ediv_of_nonneg _ (by decide)]
      omega
    obtain ⟨hm, hm2⟩ := hm
    have hmb : i ≤ m ∧ m < k := by omega
    (repeat' first | (refine Owe.same ?_; first | refine Owe.o ?_ | refine Owe.mk ?_ ?_) | (refine Fork.same ?_; (first | refine fkD ?_ ?_ | refine fkN ?_ ?_ | refine fkM ?_ ?_) <;> intro h) | ((first | refine OpsL.same ?_ | refine OpsDL.same ?_); first | refine pK C137 rfl rfl ?_) | refine MvQ.stay ?_)
    · have h : l.getD ((IntKind.u64.wrap ((i : Int) + (k : Int))).fdiv (2 ^ min (Int.toNat 1) IntKind.u64.bits)).toNat 0 < x := h
      rw [hm, Int.toNat_natCast] at h
      refine again0 (m + 1, k) ⟨by simp only; omega, by simp only; omega, fun j hj => ?_, h2⟩ (by simp only; omega) ?_
      · rcases Nat.lt_or_ge j m with h3 | h3
        · exact Int.lt_trans (hs.lt h3 (by omega)) h
        · obtain rfl : j = m := by simp only at hj; omega
          exact h
      · ((first | refine qen ?_ | refine qvs ?_ | refine qeq ?_ | refine qst ?_ | refine qv ?_ | refine qc ?_ | refine qe ?_ | refine qcs ?_ | skip); (repeat' first | exact rfl | (refine qS ?_; constructor)))
        show (IntKind.u64.wrap ((i : Int) + (k : Int))).fdiv (2 ^ min (Int.toNat 1) IntKind.u64.bits) + 1 = ((m + 1 : Nat) : Int)
        omega
    · have h : ¬ l.getD ((IntKind.u64.wrap ((i : Int) + (k : Int))).fdiv (2 ^ min (Int.toNat 1) IntKind.u64.bits)).toNat 0 < x := h
      rw [hm, Int.toNat_natCast] at h
      refine again0 (i, m) ⟨by simp only; omega, by simp only; omega, h1, fun j hj hj2 => ?_⟩ (by simp only; omega) ?_
      · simp only at hj
        rcases Nat.eq_or_lt_of_le hj with h3 | h3
        · subst h3; omega
        · have := hs.lt h3 hj2; omega
      · ((first | refine qen ?_ | refine qvs ?_ | refine qeq ?_ | refine qst ?_ | refine qv ?_ | refine qc ?_ | refine qe ?_ | refine qcs ?_ | skip); (repeat' first | exact rfl | (refine qS ?_; constructor)))
        exact hm
  · have hlt : ¬ i < k := by simpa using hlt
    obtain rfl : i = k := by omega
    have e := bsI_eq hs hk h1 h2
    rw [e]
    (repeat' first | (refine Owe.same ?_; first | refine Owe.o ?_ | refine Owe.mk ?_ ?_) | (refine Fork.same ?_; (first | refine fkY ?_ | refine fkF ?_ | ((first | refine fkD ?_ ?_ | refine fkN ?_ ?_ | refine fkM ?_ ?_) <;> intro h))) | ((first | refine OpsL.same ?_ | refine OpsDL.same ?_); first | refine oK C138 rfl rfl rfl ?_) | refine MvQ.stay ?_)
    · rename_i h0
      have h : l.getD i 0 = x := h
      have h0 : (i : Int) < l.length := h0
      (refine rqK rfl ?_; (repeat' first | exact rfl | (refine qS ?_; constructor)))
      have hf : decide ((i : Int) < l.length ∧ l.getD i 0 = x) = true := decide_eq_true ⟨h0, h⟩
      first | exact hf | exact hf.symm
    · rename_i h0
      have h : ¬ l.getD i 0 = x := h
      (refine rqK rfl ?_; (repeat' first | exact rfl | (refine qS ?_; constructor)))
      have hf : decide ((i : Int) < l.length ∧ l.getD i 0 = x) = false := decide_eq_false fun hh => h hh.2
      first | exact hf | exact hf.symm
    · have h : ¬ (i : Int) < l.length := h
      (refine rqK rfl ?_; (repeat' first | exact rfl | (refine qS ?_; constructor)))
      have hf : decide ((i : Int) < l.length ∧ l.getD i 0 = x) = false := decide_eq_false fun hh => h hh.1
      first | exact hf | exact hf.symm
theorem C57 {s : Si} {t : St8} {n : Int} : t.d.length ≤ 1000000 → PFD Tryz.prog 57 [div s t, vi .i64 n] (vbl (decide (n ∈ t.d))) := fun h => by
  have c1 := C96 (l := t.d) (n := n) h
  refine pi1 fn57 ?_
  (repeat' first | (refine Owe.same ?_; first | refine Owe.o ?_ | refine Owe.mk ?_ ?_) | (refine Fork.same ?_; (first | refine fkD ?_ ?_ | refine fkN ?_ ?_ | refine fkM ?_ ?_) <;> intro h) | ((first | refine OpsL.same ?_ | refine OpsDL.same ?_); first | refine pK c1 rfl rfl ?_) | refine MvQ.stay ?_)
  (refine rqK rfl ?_; (repeat' first | exact rfl | (refine qS ?_; constructor)))
theorem C117 {s : Si} {t : St8} {n : Int} : t.d.length ≤ 1000000 → PFD Tryz.prog 117 [vi .i64 n, .c (.rp (diD s t))] (vbl (!decide (n ∈ t.d))) := fun h => by
  have c1 := C57 (s := s) (t := t) (n := n) h
  refine pi1 fn117 ?_
  (repeat' first | (refine Owe.same ?_; first | refine Owe.o ?_ | refine Owe.mk ?_ ?_) | (refine Fork.same ?_; (first | refine fkD ?_ ?_ | refine fkN ?_ ?_ | refine fkM ?_ ?_) <;> intro h) | ((first | refine OpsL.same ?_ | refine OpsDL.same ?_); first | refine pK c1 rfl rfl ?_) | refine MvQ.stay ?_)
  (refine rqK rfl ?_; (repeat' first | exact rfl | (refine qS ?_; constructor)))
end Go.Pw

set_option linter.unusedVariables false
set_option maxHeartbeats 2000000
set_option maxRecDepth 100000
namespace Go.Pw
open Go Go.Proofs
/-- (moonpool/dive.dive).step -/
def lc100m : LCode :=
  (.seq (.region [⟨some 2, .boxS (.tmp 0), none⟩, ⟨some 4, .alloc [(.slice none 0 0), (.slice none 0 0), (.slice none 0 0), (.slice none 0 0), (.int .i64 0), (.int .i64 0), (.int
    .i64 0), (.int .i64 0), (.int .i64 0), (.int .i64 0), (.int .i64 0), (.int .i64 0), (.slice none 0 0)], none⟩, ⟨some 5, .mv (.const (.int .i64 0)), none⟩]) (.seq (.region [⟨some
    13, .fld 0 (.tmp 2), none⟩, ⟨some 14, .fld 0 (.tmp 13), none⟩, ⟨some 15, .load false 1 (.tmp 14), none⟩, ⟨some 16, .mv (.tmp 1), none⟩, ⟨some 17, .idx 9 (.tmp 15) (.tmp 16),
    none⟩, ⟨some 18, .load true 9 (.tmp 17), none⟩, ⟨some 6, .alloc [(.string ⟨#[]⟩), (.int .i64 0), (.int .i64 0), (.int .i64 0), (.int .i64 0), (.int .i64 0), (.int .i64 0), (.int
    .i64 0), (.slice none 0 0)], none⟩, ⟨none, .store 9 (.tmp 6) (.tmp 18), none⟩]) (.seq (.regionD [⟨some 19, .load true 13 (.tmp 2), none⟩, ⟨some 20, .fld 0 (.tmp 2), none⟩, ⟨some
    21, .fld 1 (.tmp 20), none⟩, ⟨some 22, .load false 1 (.tmp 21), none⟩, ⟨some 23, .fld 8 (.tmp 2), none⟩, ⟨some 24, .fld 0 (.tmp 23), none⟩, ⟨some 25, .load false 1 (.tmp 24),
    none⟩, ⟨some 26, .idx 1 (.tmp 22) (.tmp 25), none⟩, ⟨some 27, .load false 1 (.tmp 26), none⟩, ⟨some 28, .fld 1 (.tmp 6), none⟩, ⟨some 29, .load false 1 (.tmp 28), none⟩, ⟨some
    30, .idx 1 (.tmp 27) (.tmp 29), none⟩, ⟨some 31, .load false 1 (.tmp 30), none⟩, ⟨some 32, .fld 8 (.tmp 2), none⟩, ⟨some 33, .fld 1 (.tmp 32), none⟩, ⟨some 34, .load false 1
    (.tmp 33), none⟩, ⟨some 35, .call (.func 122) [(.tmp 19), (.tmp 31), (.tmp 34)], none⟩, ⟨some 7, .mv (.tmp 35), none⟩] [0, 0, 2, 6, 0, 16, 48, 126, 254, 0, 512, 2046, 4094, 0,
    8192, 24576, 65535, 131071] [0, 1, 2, 3, 4, 5, 6, 7, 8, 9, 10, 11, 12, 13, 14, 15, 16, 17]) (.seq (.region [⟨some 36, .fld 8 (.tmp 2), none⟩, ⟨some 37, .fld 1 (.tmp 36), none⟩,
    ⟨some 38, .load false 1 (.tmp 37), none⟩, ⟨some 39, .mv (.tmp 7), none⟩, ⟨some 40, .bin .add (.tmp 38) (.tmp 39), none⟩, ⟨some 8, .mv (.tmp 40), none⟩]) (.seq (.region [⟨some
    41, .mv (.tmp 8), none⟩, ⟨some 42, .fld 6 (.tmp 6), none⟩, ⟨some 43, .fld 0 (.tmp 42), none⟩, ⟨some 44, .load false 1 (.tmp 43), none⟩, ⟨some 45, .mm true [(.tmp 41), (.tmp
    44)], none⟩, ⟨some 9, .mv (.tmp 45), none⟩]) (.seq (.region [⟨some 46, .load true 13 (.tmp 2), none⟩, ⟨some 10, .alloc [(.slice none 0 0), (.slice none 0 0), (.slice none 0 0),
    (.slice none 0 0), (.int .i64 0), (.int .i64 0), (.int .i64 0), (.int .i64 0), (.int .i64 0), (.int .i64 0), (.int .i64 0), (.int .i64 0), (.slice none 0 0)], none⟩, ⟨none,
    .store 13 (.tmp 10) (.tmp 46), none⟩]) (.seq (.regionD [⟨some 47, .fld 1 (.tmp 6), none⟩, ⟨some 48, .load false 1 (.tmp 47), none⟩, ⟨some 49, .mv (.tmp 9), none⟩, ⟨some 50, .fld
    2 (.tmp 6), none⟩, ⟨some 51, .load false 1 (.tmp 50), none⟩, ⟨some 52, .bin .add (.tmp 49) (.tmp 51), none⟩, ⟨some 53, .fld 8 (.tmp 10), none⟩, ⟨some 54, .fld 0 (.tmp 53),
    none⟩, ⟨none, .store 1 (.tmp 54) (.tmp 48), none⟩, ⟨some 55, .fld 8 (.tmp 10), none⟩, ⟨some 56, .fld 1 (.tmp 55), none⟩, ⟨none, .store 1 (.tmp 56) (.tmp 52), none⟩] [0, 1, 0, 0,
    8, 28, 3, 67, 195, 511, 1023, 2047] [0, 1, 2, 3, 4, 5, 6, 7, 8, 9, 10, 11]) (.seq (.region [⟨some 57, .fld 8 (.tmp 10), none⟩, ⟨some 58, .fld 2 (.tmp 57), none⟩, ⟨some 59, .load
    false 1 (.tmp 58), none⟩, ⟨some 60, .mv (.tmp 7), none⟩, ⟨some 61, .fld 0 (.tmp 2), none⟩, ⟨some 62, .fld 5 (.tmp 61), none⟩, ⟨some 63, .load false 1 (.tmp 62), none⟩, ⟨some 64,
    .bin .mul (.tmp 60) (.tmp 63), none⟩, ⟨some 65, .mv (.tmp 9), none⟩, ⟨some 66, .mv (.tmp 8), none⟩, ⟨some 67, .bin .sub (.tmp 65) (.tmp 66), none⟩, ⟨some 68, .fld 0 (.tmp 2),
    none⟩, ⟨some 69, .fld 4 (.tmp 68), none⟩, ⟨some 70, .load false 1 (.tmp 69), none⟩, ⟨some 71, .bin .mul (.tmp 67) (.tmp 70), none⟩, ⟨some 72, .bin .add (.tmp 64) (.tmp 71),
    none⟩, ⟨some 73, .fld 3 (.tmp 6), none⟩, ⟨some 74, .load false 1 (.tmp 73), none⟩, ⟨some 75, .bin .add (.tmp 72) (.tmp 74), none⟩, ⟨some 76, .bin .sub (.tmp 59) (.tmp 75),
    none⟩, ⟨some 77, .fld 8 (.tmp 10), none⟩, ⟨some 78, .fld 2 (.tmp 77), none⟩, ⟨none, .store 1 (.tmp 78) (.tmp 76), none⟩]) (.seq (.region [⟨some 79, .fld 8 (.tmp 10), none⟩,
    ⟨some 80, .fld 3 (.tmp 79), none⟩, ⟨some 81, .load false 1 (.tmp 80), none⟩, ⟨some 82, .fld 4 (.tmp 6), none⟩, ⟨some 83, .load false 1 (.tmp 82), none⟩, ⟨some 84, .bin .sub
    (.tmp 81) (.tmp 83), none⟩, ⟨some 85, .fld 8 (.tmp 10), none⟩, ⟨some 86, .fld 3 (.tmp 85), none⟩, ⟨none, .store 1 (.tmp 86) (.tmp 84), none⟩]) (.seq (.region [⟨some 88, .fld 8
    (.tmp 2), none⟩, ⟨some 89, .fld 4 (.tmp 88), none⟩, ⟨some 90, .load false 1 (.tmp 89), none⟩, ⟨some 91, .mv (.tmp 1), none⟩, ⟨some 92, .call (.func 123) [(.tmp 90), (.tmp 91)],
    none⟩, ⟨some 87, .mv (.tmp 92), none⟩, ⟨some 93, .ext (.tmp 87) 0, none⟩, ⟨some 94, .ext (.tmp 87) 1, none⟩, ⟨some 11, .mv (.tmp 93), none⟩, ⟨some 12, .mv (.tmp 94), none⟩])
    (.seq (.region [⟨some 95, .fld 8 (.tmp 2), none⟩, ⟨some 96, .fld 4 (.tmp 95), none⟩, ⟨some 97, .load false 1 (.tmp 96), none⟩, ⟨some 98, .call (.func 80) [(.tmp 97)], none⟩,
    ⟨some 99, .mv (.tmp 11), none⟩, ⟨some 100, .mv (.tmp 1), none⟩, ⟨some 101, .lit true 3 1 [(.tmp 100)], none⟩, ⟨some 102, .call (.func 124) [(.tmp 98), (.tmp 99), (.tmp 101)],
    none⟩, ⟨some 103, .fld 8 (.tmp 10), none⟩, ⟨some 104, .fld 4 (.tmp 103), none⟩, ⟨none, .store 1 (.tmp 104) (.tmp 102), none⟩]) (.seq (.regionD [⟨some 105, .load true 13 (.tmp
    10), none⟩, ⟨some 106, .mv (.tmp 8), none⟩, ⟨some 107, .fld 6 (.tmp 6), none⟩, ⟨some 108, .fld 1 (.tmp 107), none⟩, ⟨some 109, .load false 1 (.tmp 108), none⟩, ⟨some 110, .bin
    .leq (.tmp 106) (.tmp 109), none⟩, ⟨some 111, .call (.func 55) [(.tmp 110), (.const (.int .i64 22))], none⟩, ⟨some 112, .fld 8 (.tmp 10), none⟩, ⟨some 113, .fld 3 (.tmp 112),
    none⟩, ⟨some 114, .load false 1 (.tmp 113), none⟩, ⟨some 115, .bin .geq (.tmp 114) (.const (.int .i64 0)), none⟩, ⟨some 116, .call (.func 55) [(.tmp 115), (.const (.int .i64
    11))], none⟩, ⟨some 117, .load true 13 (.tmp 10), none⟩, ⟨some 118, .call (.func 70) [(.tmp 117)], none⟩, ⟨some 119, .call (.func 55) [(.tmp 118), (.const (.int .i64 24))],
    none⟩, ⟨some 120, .lit false 33 1 [(.tmp 111), (.tmp 116), (.tmp 119)], none⟩, ⟨some 121, .call (.func 54) [(.tmp 120)], none⟩, ⟨none, .store 13 (.tmp 4) (.tmp 105), none⟩,
    ⟨some 5, .mv (.tmp 121), none⟩] [0, 0, 0, 4, 12, 30, 62, 0, 128, 384, 896, 2046, 0, 8190, 16382, 32766, 65534, 131071, 262143] [0, 1, 2, 3, 4, 5, 6, 7, 8, 9, 10, 11, 12, 13, 14,
    15, 16, 17, 18]) .ret))))))))))))
theorem low100m : lowF Tryz.prog [2, 101] Tryz.f100 = some (122, lc100m.strip, [.cell 4 true 13, .tmp 5]) := by kernel_rfl
theorem fn100m : FnOk Tryz.prog 100 122 lc100m [.cell 4 true 13, .tmp 5] := ⟨Tryz.call100, [2, 101], _, Tryz.func100, low100m⟩
end Go.Pw

set_option linter.unusedSimpArgs false
set_option linter.unusedVariables false
set_option maxHeartbeats 2000000
namespace Go.Pw
set_option maxRecDepth 2000
open Go Go.Proofs A1 A2 A3 A4
section
variable {P : Program} {N base : Nat}
/-- A call that takes rows of one's own, or hands some out. -/
theorem OpsL.cm [m : Mix P] {dst : Option Nat} {fop : Operand} {xs : List Operand} {g : Option (Nat × Bool)} {rest : List LIns} {env : List (Nat × V)} {σ : Store} (σ0 σ1 : Store) {nx hi : Nat} {K : St → Prop} {f : FuncId} {args : List V} {v : V}
    (hc : CallD P f args σ0 nx v σ1 hi) (hs : Sub σ0 σ) (hf : evo env fop = .c (.fn f [])) (hg : guardOf env g = .run) (ha : RIs (xs.map (evo env)) args)
    (h : putK dst v env fun env' => frS (app σ0 σ1 σ) fun σ' => frNat hi fun hi' => wpOps P N base rest env' σ' hi' none K) : OpsL P N base (⟨dst, .call fop xs, g⟩ :: rest) ⟨env, σ, nx⟩ K := by
  rw [putK_eq, frS_eq, frNat_eq] at h
  exact ⟨Ops.call (i := ⟨dst, .call fop xs, g⟩) (st := ⟨env, σ, nx⟩) hg rfl hf (by simpa using ha) hc hs (Ops.wp h)⟩
end
theorem sub2 {σ : Store} {a b : Nat} {e e' : Ent} (h1 : get σ a = some e) (h2 : get σ b = some e') : Sub [(a, e), (b, e')] σ := fun id x h => by
  by_cases ha : a = id
  · subst ha; rw [get_here] at h; rw [h1]; exact h
  · rw [get_next ha] at h
    by_cases hb : b = id
    · subst hb; rw [get_here] at h; rw [h2]; exact h
    · rw [get_next hb] at h; cases h
theorem sub_nil {σ : Store} : Sub [] σ := fun id e h => by simp [get] at h
abbrev tkA (s : Si) (n : Int) : Tk := s.tk.getD n.toNat tk0
abbrev trT (s : Si) (t : St8) (p : Int) : Int := swF s.ti ((s.tr.getD t.p.toNat []).getD p.toNat 0) t.t
/-- The next state after a task with such a swim to it. -/
def nxT (s : Si) (t : St8) (T : Tk) (sw n : Int) : St8 := ⟨T.p, max (t.t + sw) T.lo + T.d, t.w - (sw * s.swim + (max (t.t + sw) T.lo - (t.t + sw)) * s.idle + T.w), t.o - T.o, insI t.d (bsI n t.d) n⟩
def nxF (s : Si) (t : St8) (T : Tk) (sw n : Int) : Int := fstE [unl (t.t + sw ≤ T.hi) 22, unl (0 ≤ (nxT s t T sw n).o) 11, unb (reB s (nxT s t T sw n)) 24]
/-- The next state after a task, whatever it needs, and its error. -/
abbrev nxS (s : Si) (t : St8) (n : Int) : St8 := nxT s t (tkA s n) (trT s t (tkA s n).p) n
abbrev nxE (s : Si) (t : St8) (n : Int) : Int := nxF s t (tkA s n) (trT s t (tkA s n).p) n
structure TkB (s : Si) (T : Tk) : Prop where
  p : 0 ≤ T.p ∧ T.p < s.ho.length
  d : isN T.d
  w : isN T.w
  o : isN T.o
  lo : isT T.lo
  hi : isT T.hi
theorem TkOk.b {s : Si} {i : Nat} (h : TkOk s i) : TkB s (s.tk.getD i tk0) := ⟨⟨h.p.1, h.q⟩, h.d, h.w, h.o, h.lo, h.hi⟩
theorem trT_bd {s : Si} {t : St8} {p : Int} (h : OnOk s t) : 0 ≤ trT s t p ∧ trT s t p ≤ 20000 := by
  have h1 := ((h.ok.r t.p.toNat (by have := h.pl; omega)).2.1) p.toNat
  have := swF_bd (a := t.t) (fun k hk => (h.ok.u k hk).1.2) h1
  simp only [trT]
  omega
theorem nxT_b {s : Si} {t : St8} {T : Tk} {sw n : Int} (h : OnOk s t) (hT : TkB s T) (hb : 0 ≤ sw ∧ sw ≤ 20000) : DvB s (nxT s t T sw n) := by
  have h2 := h.tm
  have h3 := h.en
  have h4 := h.ok.e
  have h7 := hT.lo; have h8 := hT.d; have h9 := hT.w
  have m1 := mbd (a := sw) (A := 20000) (by omega) (b := s.swim) (B := 10000) (by omega)
  have m2 := mbd (a := max (t.t + sw) T.lo - (t.t + sw)) (A := 200000) (by omega) (b := s.idle) (B := 10000) (by omega)
  refine ⟨h.ok, hT.p, ?_, ?_⟩
  · simp only [nxT]; omega
  · simp only [nxT]; omega
theorem Srt.of {l : List Int} {b : Int} (h : (ascE l b).2 = 0) : Srt l ∧ (∀ i, i < l.length → 0 ≤ l.getD i 0 ∧ l.getD i 0 ≤ b - 1) := by
  rw [ascE, eachN_ok] at h
  refine ⟨fun i hi => ?_, fun i hi => ?_⟩
  · have := h (i + 1) hi
    rw [ascN, fst2, unl0 (by decide), unl0 (by decide)] at this
    have := this.2
    rwa [lastI, if_neg (by omega), Nat.add_sub_cancel] at this
  · have := h i hi
    rw [ascN, fst2, unl0 (by decide), unl0 (by decide)] at this
    exact this.1
theorem C100 {s : Si} {t : St8} {n : Int} : (OnOk s t ∧ t.d.length ≤ 1000 ∧ 0 ≤ n ∧ n < s.tk.length) → PFD Tryz.prog 100 [div s t, vi .i64 n] (.tup [div s (nxS s t n), vi .i64 (nxE s t n)]) := fun ⟨h, hd, hn⟩ => by
  have hb := trT_bd (p := (tkA s n).p) h
  have hB := (h.ok.t n.toNat (by omega)).b
  have hN := C70 (nxT_b (n := n) h hB hb)
  have h2 := h.tm
  have h3 := h.en
  have h4 := h.ok.e
  have h11 := h.oil
  have h12 := h.pl
  have h13 := h.ok.h
  have h14 := (h.ok.r t.p.toNat (by omega)).1.2
  have h15 := h.ok.m
  have h16 := h.ok.n
  have h17 := (h.ok.r t.p.toNat (by omega)).2.1 (tkA s n).p.toNat
  have c1 := C122 (s := s) (t := t) (n := (s.tr.getD t.p.toNat []).getD (tkA s n).p.toNat 0) (a := t.t) ⟨by omega, fun k hk => (h.ok.u k hk).1.2, by omega⟩
  have c2 := C123 (l := t.d) (x := n) ⟨(Srt.of h.d).1, by omega⟩
  have hle := bsI_le n t.d
  change PFD Tryz.prog 122 _ (vi .i64 (trT s t (tkA s n).p)) at c1
  simp only [nxS, nxE, tkA] at *
  generalize hsw : trT s t (s.tk.getD n.toNat tk0).p = sw at *
  obtain ⟨b5, b6, b7, b8, b9, b10⟩ := hB
  have m1 := mbd (a := sw) (A := 20000) (by omega) (b := s.swim) (B := 10000) (by omega)
  have m2 := mbd (a := max (t.t + sw) (s.tk.getD n.toNat tk0).lo - (t.t + sw)) (A := 200000) (by omega) (b := s.idle) (B := 10000) (by omega)
  refine pi2 fn100m ?_
  (repeat' first | (refine Owe.same ?_; first | refine Owe.o ?_ | refine Owe.mk ?_ ?_) | (refine Fork.same ?_; (first | refine fkD ?_ ?_ | refine fkN ?_ ?_ | refine fkM ?_ ?_) <;> intro h) | ((first | refine OpsL.same ?_ | refine OpsDL.same ?_); first | refine pK c1 rfl rfl ?_ | refine pK c2 rfl rfl ?_) | refine MvQ.stay ?_)
  refine OpsL.cm [] _ (C80 (l := t.d) (by omega)) sub_nil rfl rfl (ris0 rfl) ?_
  (repeat' first | (refine Owe.same ?_; first | refine Owe.o ?_ | refine Owe.mk ?_ ?_) | (refine Fork.same ?_; (first | refine fkD ?_ ?_ | refine fkN ?_ ?_ | refine fkM ?_ ?_) <;> intro h) | refine MvQ.stay ?_)
  refine OpsL.cm _ [] (C124m (l := t.d) (i := bsI n t.d) (x := n) (a := 32) (b := 33) (f := fun i => r1 (t.d.getD i 0)) (g := fun i => [[D.v (Value.int IntKind.i64 n)]].getD i []) (fun _ _ => rfl) rfl (by decide) hle (by omega)) (sub2 rfl rfl) rfl rfl (ris0 rfl) ?_
  (repeat' first | (refine Owe.same ?_; first | refine Owe.o ?_ | refine Owe.mk ?_ ?_) | (refine Fork.same ?_; (first | refine fkD ?_ ?_ | refine fkN ?_ ?_ | refine fkM ?_ ?_) <;> intro h) | ((first | refine OpsL.same ?_ | refine OpsDL.same ?_); first | refine pK hN rfl rfl ?_ | refine pK C55 rfl rfl ?_ | refine pK C54 rfl rfl ?_) | refine MvQ.stay ?_)
  (refine rqK rfl ?_; (repeat' first | exact rfl | (refine qS ?_; constructor)))
/-- Whether some number that a task needs is not done. -/
abbrev nedB (s : Si) (t : St8) (n : Int) : Bool := (tkA s n).a.any fun m => !decide (m ∈ t.d)
abbrev spF (s : Si) (t : St8) (n : Int) : Int := fstE [unb (!decide (n ∈ t.d)) 23, unb (!nedB s t n) 9]
/-- The error of a step by any task. -/
def spE (s : Si) (t : St8) (n : Int) : Int := if wi n 0 ((s.tk.length : Int) - 1) = true then (if spF s t n = 0 then nxE s t n else spF s t n) else 6
def spS (s : Si) (t : St8) (n : Int) : St8 := if wi n 0 ((s.tk.length : Int) - 1) = true then (if spF s t n = 0 then nxS s t n else t) else t
theorem C78 {s : Si} {t : St8} {n : Int} : (OnOk s t ∧ t.d.length ≤ 1000 ∧ TkSm s.tk) → PFD Tryz.prog 78 [div s t, vi .i64 n] (.tup [div s (spS s t n), vi .i64 (spE s t n)]) := fun ⟨h, hd, hs⟩ => by
  have h16 := h.ok.n
  by_cases hn : 0 ≤ n ∧ n ≤ (s.tk.length : Int) - 1
  · have hw : wi n 0 ((s.tk.length : Int) - 1) = true := decide_eq_true hn
    have c1 := C56 (g := 117) (rows := [diD s t]) (l := (tkA s n).a) (f := fun i => !decide ((tkA s n).a.getD i 0 ∈ t.d)) (fun i hi => C117 (s := s) (t := t) (by omega)) (hs n.toNat (by omega)).2
    rw [anyN_mem (p := fun m => !decide (m ∈ t.d))] at c1
    have c2 := C57 (s := s) (t := t) (n := n) (by omega)
    have c3 := C100 (s := s) (t := t) (n := n) ⟨h, hd, by omega⟩
    obtain ⟨q, hq⟩ : ∃ q, q = spE s t n := ⟨_, rfl⟩
    obtain ⟨S, hS⟩ : ∃ S, S = spS s t n := ⟨_, rfl⟩
    rw [← hq, ← hS]
    rw [spE, if_pos hw] at hq
    rw [spS, if_pos hw] at hS
    generalize hX : nxS s t n = X at *
    generalize hY : nxE s t n = Y at *
    refine pi2 fn78 ?_
    (repeat' first | (refine Owe.same ?_; first | refine Owe.o ?_ | refine Owe.mk ?_ ?_) | (refine Fork.same ?_; (first | refine fkY ?_ | refine fkF ?_ | ((first | refine fkD ?_ ?_ | refine fkN ?_ ?_ | refine fkM ?_ ?_) <;> intro h))) | ((first | refine OpsL.same ?_ | refine OpsDL.same ?_); first | refine pK C69 rfl rfl ?_ | refine pK c1 rfl rfl ?_ | refine pK c2 rfl rfl ?_ | refine pK C55 rfl rfl ?_ | refine pK C54 rfl rfl ?_) | refine MvQ.stay ?_)
    · have h : ¬ spF s t n = 0 := h
      rw [if_neg h] at hq hS
      subst hq; subst hS
      (refine rqK rfl ?_; (repeat' first | exact rfl | (refine qS ?_; constructor)))
    · have h : spF s t n = 0 := h
      rw [if_pos h] at hq hS
      subst hq; subst hS
      (repeat' first | (refine Owe.same ?_; first | refine Owe.o ?_ | refine Owe.mk ?_ ?_) | (refine Fork.same ?_; (first | refine fkD ?_ ?_ | refine fkN ?_ ?_ | refine fkM ?_ ?_) <;> intro h) | ((first | refine OpsL.same ?_ | refine OpsDL.same ?_); first | refine pK c3 rfl rfl ?_) | refine MvQ.stay ?_)
      (refine rqK rfl ?_; (repeat' first | exact rfl | (refine qS ?_; constructor)))
  · have hw : ¬ wi n 0 ((s.tk.length : Int) - 1) = true := fun hh => hn (of_decide_eq_true hh)
    rw [spE, spS, if_neg hw, if_neg hw]
    refine pi2 fn78 ?_
    (repeat' first | (refine Owe.same ?_; first | refine Owe.o ?_ | refine Owe.mk ?_ ?_) | (refine Fork.same ?_; (first | refine fkY ?_ | refine fkF ?_ | ((first | refine fkD ?_ ?_ | refine fkN ?_ ?_ | refine fkM ?_ ?_) <;> intro h))) | ((first | refine OpsL.same ?_ | refine OpsDL.same ?_); first | refine oK C69 rfl rfl rfl ?_) | refine MvQ.stay ?_)
    (refine rqK rfl ?_; (repeat' first | exact rfl | (refine qS ?_; constructor)))
abbrev st0 : St8 := ⟨0, 0, 0, 0, []⟩
abbrev sbE (s : Si) (t : St8) (n : Int) : Int := if onE s t = 0 then spE s t n else onE s t
theorem C30 {s : Si} {t : St8} {n : Int} : (SiSm s ∧ t.d.length ≤ 1000) → PFD Tryz.prog 30 [siv s, stv t, vi .i64 n] (.tup [stv (if sbE s t n = 0 then spS s t n else st0), vi .i64 (sbE s t n)]) := fun ⟨hs, hd⟩ => by
  have c1 := C52 (s := s) (t := t) ⟨hs, by omega⟩
  by_cases h0 : onE s t = 0
  · have c2 := C78 (s := s) (t := t) (n := n) ⟨OnOk.of h0, hd, hs.t⟩
    rw [show sbE s t n = spE s t n by rw [sbE, if_pos h0]]
    generalize hX : spS s t n = X at *
    generalize hY : spE s t n = Y at *
    refine pi2 fn30 ?_
    (repeat' first | (refine Owe.same ?_; first | refine Owe.o ?_ | refine Owe.mk ?_ ?_) | (refine Fork.same ?_; (first | refine fkY ?_ | refine fkF ?_ | ((first | refine fkD ?_ ?_ | refine fkN ?_ ?_ | refine fkM ?_ ?_) <;> intro h))) | ((first | refine OpsL.same ?_ | refine OpsDL.same ?_); first | refine oK c1 rfl rfl rfl ?_) | refine MvQ.stay ?_)
    (repeat' first | (refine Owe.same ?_; first | refine Owe.o ?_ | refine Owe.mk ?_ ?_) | (refine Fork.same ?_; (first | refine fkD ?_ ?_ | refine fkN ?_ ?_ | refine fkM ?_ ?_) <;> intro h) | ((first | refine OpsL.same ?_ | refine OpsDL.same ?_); first | refine pK c2 rfl rfl ?_) | refine MvQ.stay ?_)
    · rw [if_neg h]; (refine rqK rfl ?_; (repeat' first | exact rfl | (refine qS ?_; constructor)))
    · rw [if_pos h]; (refine rqK rfl ?_; (repeat' first | exact rfl | (refine qS ?_; constructor))); exact h.symm
  · rw [show sbE s t n = onE s t by rw [sbE, if_neg h0], if_neg h0]
    refine pi2 fn30 ?_
    (repeat' first | (refine Owe.same ?_; first | refine Owe.o ?_ | refine Owe.mk ?_ ?_) | (refine Fork.same ?_; (first | refine fkY ?_ | refine fkF ?_ | ((first | refine fkD ?_ ?_ | refine fkN ?_ ?_ | refine fkM ?_ ?_) <;> intro h))) | ((first | refine OpsL.same ?_ | refine OpsDL.same ?_); first | refine oK c1 rfl rfl rfl ?_) | refine MvQ.stay ?_)
    (refine rqK rfl ?_; (repeat' first | exact rfl | (refine qS ?_; constructor)))
end Go.Pw

set_option linter.unusedVariables false
set_option maxHeartbeats 2000000
set_option maxRecDepth 100000
namespace Go.Pw
open Go Go.Proofs
/-- (moonpool/dive.dive).plans$1$1 -/
def lc126m : LCode :=
  (.seq (.region [⟨some 5, .boxS (.tmp 0), none⟩, ⟨some 7, .mv (.const (.bool false)), none⟩]) (.seq (.seq (.region [⟨some 11, .load false 1 (.tmp 2), none⟩, ⟨some 12, .mv (.tmp 1),
    none⟩, ⟨some 13, .call (.tmp 11) [(.tmp 12)], none⟩, ⟨some 14, .un .not (.tmp 13), none⟩]) (.cond (.tmp 14) (.seq (.region [⟨some 7, .mv (.const (.bool false)), none⟩]) .ret)
    .skip)) (.seq (.seq (.region [⟨some 15, .fld 0 (.tmp 5), none⟩, ⟨some 16, .fld 0 (.tmp 15), none⟩, ⟨some 17, .load false 1 (.tmp 16), none⟩, ⟨some 18, .len (.tmp 17), none⟩,
    ⟨some 19, .mv (.const (.int .i64 0)), none⟩]) (.block 0 (.loop (.seq (.region [⟨some 20, .bin .lss (.tmp 19) (.tmp 18), none⟩]) (.seq (.cond (.tmp 20) .skip (.exit 0)) (.seq
    (.block 1 (.seq (.region [⟨some 21, .mv (.tmp 19), none⟩, ⟨some 8, .mv (.tmp 21), none⟩]) (.seq (.seq (.region [⟨some 22, .load false 1 (.tmp 3), none⟩, ⟨some 23, .mv (.tmp 8),
    none⟩, ⟨some 24, .call (.tmp 22) [(.tmp 23)], none⟩, ⟨some 25, .un .not (.tmp 24), none⟩]) (.cond (.tmp 25) (.exit 1) .skip)) (.seq (.region [⟨some 27, .load true 13 (.tmp 5),
    none⟩, ⟨some 28, .mv (.tmp 8), none⟩, ⟨some 29, .call (.func 78) [(.tmp 27), (.tmp 28)], none⟩, ⟨some 26, .mv (.tmp 29), none⟩, ⟨some 30, .ext (.tmp 26) 0, none⟩, ⟨some 31, .ext
    (.tmp 26) 1, none⟩, ⟨some 9, .alloc [(.slice none 0 0), (.slice none 0 0), (.slice none 0 0), (.slice none 0 0), (.int .i64 0), (.int .i64 0), (.int .i64 0), (.int .i64 0),
    (.int .i64 0), (.int .i64 0), (.int .i64 0), (.int .i64 0), (.slice none 0 0)], none⟩, ⟨none, .store 13 (.tmp 9) (.tmp 30), none⟩, ⟨some 10, .mv (.tmp 31), none⟩]) (.seq
    (.regionD [⟨some 32, .mv (.tmp 10), none⟩, ⟨some 33, .bin .eql (.tmp 32) (.const (.int .i64 0)), none⟩, ⟨some 34, .mv (.tmp 33), none⟩, ⟨some 35, .load false 1 (.tmp 4), some
    (34, true)⟩, ⟨some 36, .load true 13 (.tmp 9), some (34, true)⟩, ⟨some 37, .mv (.tmp 1), some (34, true)⟩, ⟨some 38, .call (.func 127) [(.tmp 37)], some (34, true)⟩, ⟨some 39,
    .mv (.tmp 8), some (34, true)⟩, ⟨some 40, .lit false 3 1 [(.tmp 39)], some (34, true)⟩, ⟨some 41, .append false 3 1 8 (.tmp 38) (.tmp 40), some (34, true)⟩, ⟨some 42, .call
    (.tmp 35) [(.tmp 36), (.tmp 41)], some (34, true)⟩, ⟨some 43, .un .not (.tmp 42), some (34, true)⟩, ⟨some 44, .pick (.tmp 34) (.tmp 43) (.const (.bool false)), none⟩] [0, 1, 3,
    7, 7, 7, 39, 7, 135, 487, 1023, 2047, 4095] [0, 1, 2, 3, 4, 5, 6, 7, 8, 9, 10, 11, 12]) (.cond (.tmp 44) (.seq (.region [⟨some 7, .mv (.const (.bool false)), none⟩]) .ret)
    .skip)))))) (.region [⟨some 45, .bin .add (.tmp 19) (.const (.int .i64 1)), none⟩, ⟨some 19, .mv (.tmp 45), none⟩]))))))) (.seq (.region [⟨some 7, .mv (.const (.bool true)),
    none⟩]) .ret))))
theorem low126m : lowF Tryz.prog [5] Tryz.f126 = some (46, lc126m.strip, [.tmp 7]) := by kernel_rfl
theorem fn126m : FnOk Tryz.prog 126 46 lc126m [.tmp 7] := ⟨Tryz.call126, [5], _, Tryz.func126, low126m⟩
end Go.Pw

set_option linter.unusedSimpArgs false
set_option linter.unusedVariables false
set_option maxHeartbeats 2000000
namespace Go.Pw
set_option maxRecDepth 2000
open Go Go.Proofs A1 A2 A3 A4
open Go.RowKit
/-- A call that leaves no names goes anywhere. -/
theorem CallD.at {P : Program} {f : FuncId} {args : List V} {σ σ' : Store} {v : V} {n : Nat} (h : CallD P f args σ n v σ' n) (nx : Nat) : CallD P f args σ nx v σ' nx := by
  refine ⟨h.1, Nat.le_refl _, fun Γ w us hst _ hr => ?_⟩
  refine (h.2.2 Γ w us hst (fun id h1 h2 => absurd h2 (by omega)) hr).mono (fun e w' ⟨u, Γ', h1, h2, h3, h4, h5, h6⟩ => ⟨u, Γ', h1, h2, h3, h4, fun id _ => h5 id (by omega), h6⟩)
/-- A copy, as data. -/
theorem C80d {l : List Int} (hl : l.length ≤ 1000000) : PFD Tryz.prog 80 [.c (ints l)] (.c (ints l)) := by
  obtain ⟨hent, _⟩ := fn80
  refine ⟨hent, Nat.le_refl _, fun Γ w us hst hno hr => ?_⟩
  have key : ∀ v' w', w'.ownsRow w.heap.size 3 1 v' l.length (vsI l) → v' ≠ .slice none 0 0 → Below w.heap.size w w' → ∃ Γ', RepV Γ' w' (.c (ints l)) v' ∧ StoreOk Γ' w' [] ∧ CxLe Γ Γ' ∧ (∀ id, ¬ (0 ≤ id ∧ id < 0) → Γ'.ρ id = Γ.ρ id ∧ Γ'.κ id = Γ.κ id) ∧ Ext 0 Γ w [] Γ' w' [] := fun v' w' hown hnil hB => by
    obtain ⟨_, ⟨h, _⟩ | ⟨g, cap, cur, rfl, hg, hh, hn, hc, hs, ht⟩⟩ := hown
    · exact absurd h hnil
    · obtain ⟨u, Γ', h1, h2⟩ := shut_post (w' := w') (nx := 0) (ys := l) (B := g) (cap := cap) hst (.inr hg) (Array.getElem?_eq_some_iff.1 hh).1 hn (fun j hj => by
        have h1 := vsI_at hj
        rw [← ht, List.getElem?_take, Nat.mul_one, if_pos hj] at h1
        rw [cell_row hh]; simpa using h1) hB.os hB.tape hB.output hB.size (fun k hk _ => hB.block k hk)
      simp only [Ending.returned.injEq] at h1
      subst h1
      exact ⟨Γ', h2⟩
  obtain ⟨us⟩ := us
  obtain ⟨u0, rfl⟩ : ∃ u0, us = [u0] := by
    have := hr.1
    match us, this with
    | [u0], _ => exact ⟨_, rfl⟩
  have q0 := hr.2 0 _ u0 rfl rfl
  cases q0 with | c _ u h =>
  have h : RepD Γ.I w (.sl 1 l.length fun i => r1 (l.getD i 0)) u0 := h
  generalize hd : D.sl 1 l.length (fun i => r1 (l.getD i 0)) = d at h
  cases h with
  | v x h => cases hd
  | slE s f A c =>
    simp only [D.sl.injEq] at hd
    obtain ⟨_, h0, _⟩ := hd
    obtain rfl := List.length_eq_zero_iff.1 h0
    cases A with
    | none =>
      refine (Any.slices_Clone_int_nil kloL 0 c w).mono fun e w' ⟨he, hw⟩ => ?_
      subst hw
      exact ⟨_, Γ, he, .c _ _ (.slE _ _ _ _), hst, CxLe.refl _, fun _ _ => ⟨rfl, rfl⟩, Ext.refl _ _ _ _⟩
    | some a =>
      refine (Any.slices_Clone_int_zero kloL a c w).mono fun e w' ⟨v', he, hown, hnil, hB⟩ => ?_
      obtain ⟨Γ', h1⟩ := key _ _ hown hnil hB
      exact ⟨_, Γ', he, h1⟩
  | sl s n f ad c U hn hI hs hc hr' =>
    simp only [D.sl.injEq] at hd
    obtain ⟨rfl, rfl, rfl⟩ := hd
    have hcell : ∀ j, j < l.length → w.cell? (ad.add j) = some (.int .i64 (l.getD j 0)) := fun j hj => by
      have h1 := hc j 0 (dI (l.getD j 0)) hj rfl
      have h2 := hr' j 0 (dI (l.getD j 0)) hj rfl
      rw [Nat.mul_one, Nat.add_zero] at h1
      rw [h1]
      generalize U j 0 = u at h2
      cases h2; rfl
    rcases Nat.eq_zero_or_pos l.length with h0 | h0
    · obtain rfl := List.length_eq_zero_iff.1 h0
      refine (Any.slices_Clone_int_zero kloL ad c w).mono fun e w' ⟨v', he, hown, hnil, hB⟩ => ?_
      obtain ⟨Γ', h1⟩ := key _ _ hown hnil hB
      exact ⟨_, Γ', he, h1⟩
    · obtain ⟨b, off, sp⟩ := ad
      have hsp : sp = none := by
        have := hcell 0 h0
        rw [add_zero] at this
        cases sp with
        | none => rfl
        | some x =>
          simp only [World.cell?] at this
          split at this <;> simp at this
      subst hsp
      refine (Any.slices_Clone_int kloL b off l.length c l w (Nat.le_refl _) (by omega) (fun j hj => by have := hcell j hj; rwa [Addr.add_lit] at this)).mono fun e w' ⟨v', he, hown, hnil, hB⟩ => ?_
      rw [List.take_of_length_le (Nat.le_refl _)] at hown
      obtain ⟨Γ', h1⟩ := key _ _ hown hnil hB
      exact ⟨_, Γ', he, h1⟩
theorem C127 {l : List Int} : l.length ≤ 1000000 → PFD Tryz.prog 127 [.c (ints l)] (.c (.cl 1 l.length fun i => r1 (l.getD i 0))) := fun hl => by
  refine pi1 fn127 ?_
  (repeat' first | (refine Owe.same ?_; first | refine Owe.o ?_ | refine Owe.mk ?_ ?_) | (refine Fork.same ?_; (first | refine fkD ?_ ?_ | refine fkN ?_ ?_ | refine fkM ?_ ?_) <;> intro h) | refine MvQ.stay ?_)
  (refine rqK rfl ?_; (repeat' first | exact rfl | (refine qS ?_; constructor)))
theorem C68 {n : Int} : PFD Tryz.prog 68 [vi .i64 n] (vbl true) := by
  refine pi1 fn68 ?_
  (repeat' first | (refine Owe.same ?_; first | refine Owe.o ?_ | refine Owe.mk ?_ ?_) | (refine Fork.same ?_; (first | refine fkD ?_ ?_ | refine fkN ?_ ?_ | refine fkM ?_ ?_) <;> intro h) | refine MvQ.stay ?_)
  (refine rqK rfl ?_; (repeat' first | exact rfl | (refine qS ?_; constructor)))
/-- The value of a plan. -/
def vaP (s : Si) (l : List Int) : Nat → Int
  | 0 => 0
  | k + 1 => vaP s l k + (tkA s (l.getD k 0)).v
abbrev vaI (s : Si) (l : List Int) : Int := vaP s l l.length
/-- Numbers of tasks. -/
abbrev tkNs (s : Si) (l : List Int) : Prop := ∀ k, k < l.length → 0 ≤ l.getD k 0 ∧ l.getD k 0 < s.tk.length
theorem vaP_bd {s : Si} {l : List Int} (h : SiOk s) (hl : tkNs s l) : ∀ k, k ≤ l.length → 0 ≤ vaP s l k ∧ vaP s l k ≤ k * 10000
  | 0, _ => ⟨Int.le_refl _, Int.le_refl _⟩
  | k + 1, hk => by
    have ih := vaP_bd h hl k (by omega)
    have h1 := hl k (by omega)
    have h2 := (h.t (l.getD k 0).toNat (by omega)).v
    rw [vaP]
    simp only [tkA]
    omega
theorem C81 {s : Si} {l : List Int} : (SiOk s ∧ tkNs s l ∧ l.length ≤ 1000) → PFD Tryz.prog 81 [siv s, .c (ints l)] (vi .i64 (vaI s l)) := fun ⟨h, hl, hn⟩ => by
  have h6 := h.n
  refine pi1 fn81 ?_
  (repeat' first | (refine Owe.same ?_; first | refine Owe.o ?_ | refine Owe.mk ?_ ?_) | (refine Fork.same ?_; (first | refine fkD ?_ ?_ | refine fkN ?_ ?_ | refine fkM ?_ ?_) <;> intro h) | refine MvQ.stay ?_)
  refine Sat.lp0 (fun k : Nat => [(10, vi .i64 k), (9, vi .i64 l.length), (8, .c (ints l)), (2, .c (.rp (siD s))), (5, vi .i64 (vaP s l k))]) (fun k => k ≤ l.length) (fun k => l.length - k) 0 (Nat.zero_le _) (by ((first | refine qen ?_ | refine qvs ?_ | refine qeq ?_ | refine qst ?_ | refine qv ?_ | refine qc ?_ | refine qe ?_ | refine qcs ?_ | skip); (repeat' first | exact rfl | (refine qS ?_; constructor)))) ?_
  intro k hk
  have hb := vaP_bd h hl k hk
  refine Fork.dec (fun hlt => ?_) (fun hlt => ?_)
  · have hlt : k < l.length := by omega
    have h1 := hl k hlt
    have h2 := (h.t (l.getD k 0).toNat (by omega)).v
    (repeat' first | (refine Owe.same ?_; first | refine Owe.o ?_ | refine Owe.mk ?_ ?_) | (refine Fork.same ?_; (first | refine fkD ?_ ?_ | refine fkN ?_ ?_ | refine fkM ?_ ?_) <;> intro h) | refine MvQ.stay ?_)
    exact again0 (k + 1) hlt (by omega) (by ((first | refine qen ?_ | refine qvs ?_ | refine qeq ?_ | refine qst ?_ | refine qv ?_ | refine qc ?_ | refine qe ?_ | refine qcs ?_ | skip); (repeat' first | exact rfl | (refine qS ?_; constructor))))
  · obtain rfl : k = l.length := by omega
    (repeat' first | (refine Owe.same ?_; first | refine Owe.o ?_ | refine Owe.mk ?_ ?_) | (refine Fork.same ?_; (first | refine fkD ?_ ?_ | refine fkN ?_ ?_ | refine fkM ?_ ?_) <;> intro h) | refine MvQ.stay ?_)
    (refine rqK rfl ?_; (repeat' first | exact rfl | (refine qS ?_; constructor)))
/-- The error of a site and a state that must be able to return. -/
def orE (s : Si) (t : St8) : Int := if onE s t = 0 then (if reB s t = true then 0 else 24) else onE s t
theorem C66 {s : Si} {t : St8} : (SiSm s ∧ t.d.length ≤ 1000000) → PFD Tryz.prog 66 [siv s, stv t] (.tup [div s t, vi .i64 (orE s t)]) := fun hs => by
  have c1 := C52 hs
  obtain ⟨q, hq⟩ : ∃ q, q = orE s t := ⟨_, rfl⟩
  rw [← hq]
  rw [orE] at hq
  by_cases h0 : onE s t = 0
  · have c2 := C70 (OnOk.of h0).b
    rw [if_pos h0] at hq
    generalize reB s t = r at *
    refine pi2 fn66 ?_
    (repeat' first | (refine Owe.same ?_; first | refine Owe.o ?_ | refine Owe.mk ?_ ?_) | (refine Fork.same ?_; (first | refine fkD ?_ ?_ | refine fkN ?_ ?_ | refine fkM ?_ ?_) <;> intro h) | ((first | refine OpsL.same ?_ | refine OpsDL.same ?_); first | refine pK c1 rfl rfl ?_ | refine pK c2 rfl rfl ?_) | refine MvQ.stay ?_)
    · have h : r = false := by simpa using h
      subst h
      subst hq
      (refine rqK rfl ?_; (repeat' first | exact rfl | (refine qS ?_; constructor)))
    · have h : r = true := by simpa using h
      subst h
      subst hq
      (refine rqK rfl ?_; (repeat' first | exact rfl | (refine qS ?_; constructor)))
      exact h0
    · exact absurd h0 h
  · rw [if_neg h0] at hq
    subst hq
    refine pi2 fn66 ?_
    (repeat' first | (refine Owe.same ?_; first | refine Owe.o ?_ | refine Owe.mk ?_ ?_) | (refine Fork.same ?_; (first | refine fkD ?_ ?_ | refine fkN ?_ ?_ | refine fkM ?_ ?_) <;> intro h) | ((first | refine OpsL.same ?_ | refine OpsDL.same ?_); first | refine pK c1 rfl rfl ?_) | refine MvQ.stay ?_)
    all_goals first
      | exact absurd ‹onE s t = 0› h0
      | (refine rqK rfl ?_; (repeat' first | exact rfl | (refine qS ?_; constructor)))
end Go.Pw

set_option linter.unusedSimpArgs false
set_option linter.unusedVariables false
set_option maxHeartbeats 4000000
namespace Go.Pw
set_option maxRecDepth 2000
open Go Go.Proofs A1 A2 A3 A4
/-- The better one of a plan with a value, and a further plan. -/
def updP (s : Si) (p : List Int) (b : List Int × Int) : List Int × Int := if b.2 < vaI s p then (p, vaI s p) else b
mutual
/-- The best plan of those that begin with a plan, so many further tasks at most. -/
def grwF (s : Si) : Nat → St8 → List Int → List Int × Int → List Int × Int
  | 0, _, p, b => updP s p b
  | f + 1, t, p, b => grwK s f t p (updP s p b) s.tk.length
/-- .. of which the next task is one of the first ones. -/
def grwK (s : Si) (f : Nat) (t : St8) (p : List Int) (b : List Int × Int) : Nat → List Int × Int
  | 0 => b
  | k + 1 => if spE s t k = 0 then grwF s f (spS s t k) (p ++ [(k : Int)]) (grwK s f t p b k) else grwK s f t p b k
end
section
variable {P : Program} {N base : Nat}
theorem OpsDL.cm [m : Mix P] {M : List Nat} {acc : List (Bool × List Nat)} {dst : Option Nat} {fop : Operand} {xs : List Operand} {g : Option (Nat × Bool)} {rest : List LIns} {env : List (Nat × V)} {σ : Store} (σ0 σ1 : Store) {nx hi : Nat} {K : St → Prop} {f : FuncId} {ids : List Nat} {args : List V} {v : V}
    (hc : CallD P f args σ0 nx v σ1 hi) (hs : Sub σ0 σ) (hf : evo env fop = .c (.fn f ids)) (hg : guardOf env g = .run) (ha : RIs (xs.map (evo env) ++ ids.map fun k => .c (.bp k 0)) args)
    (h : putK dst v env fun env' => frS (app σ0 σ1 σ) fun σ' => frNat hi fun hi' => wpD P N base M rest env' σ' hi' none ((false, dom σ0 ++ dom σ1) :: acc) K) : OpsDL P N base M (⟨dst, .call fop xs, g⟩ :: rest) ⟨env, σ, nx⟩ acc K := by
  rw [putK_eq, frS_eq, frNat_eq] at h
  exact ⟨OpsD.call (k := 0) (ks := []) (i := ⟨dst, .call fop xs, g⟩) (st := ⟨env, σ, nx⟩) hg rfl hf ha hc hs (OpsD.wp h)⟩
theorem OpsL.cmi [m : Mix P] {dst : Option Nat} {fop : Operand} {xs : List Operand} {g : Option (Nat × Bool)} {rest : List LIns} {env : List (Nat × V)} {σ : Store} (σ0 σ1 : Store) {nx hi : Nat} {K : St → Prop} {f : FuncId} {ids : List Nat} {args : List V} {v : V}
    (hc : CallD P f args σ0 nx v σ1 hi) (hs : Sub σ0 σ) (hf : evo env fop = .c (.fn f ids)) (hg : guardOf env g = .run) (ha : RIs (xs.map (evo env) ++ ids.map fun k => .c (.bp k 0)) args)
    (h : putK dst v env fun env' => frS (app σ0 σ1 σ) fun σ' => frNat hi fun hi' => wpOps P N base rest env' σ' hi' none K) : OpsL P N base (⟨dst, .call fop xs, g⟩ :: rest) ⟨env, σ, nx⟩ K := by
  rw [putK_eq, frS_eq, frNat_eq] at h
  exact ⟨Ops.call (i := ⟨dst, .call fop xs, g⟩) (st := ⟨env, σ, nx⟩) hg rfl hf ha hc hs (Ops.wp h)⟩
end
theorem sub_cons {σ τ : Store} {a : Nat} {e : Ent} (h1 : get σ a = some e) (h2 : Sub τ σ) : Sub ((a, e) :: τ) σ := fun id x h => by
  by_cases ha : a = id
  · subst ha; rw [get_here] at h; rw [h1]; exact h
  · rw [get_next ha] at h; exact h2 id x h
/-- The store while plans are made: the best plan and its value; the loop over plans; what makes them. -/
abbrev gsto (s : Si) (t0 : St8) (b : List Int × Int) : Store :=
  [(6, .box [.fn 126 [5, 3, 6]]), (5, .box [.yd 4]), (4, .lp [(2, .c (.rp (diD s t0))), (6, .c (.bp 0 0)), (7, .c (.bp 1 0)), (12, .c (.fn 125 [3, 2]))] .ready none (RR Tryz.prog 26 [13] ra67 rb67)), (3, .box [.fn 68 []]), (1, .box [int b.2]), (0, .box [ints b.1])]
theorem tkNs_app {s : Si} {p : List Int} {n : Int} (hp : tkNs s p) (hn : 0 ≤ n ∧ n < s.tk.length) : tkNs s (p ++ [n]) := fun k hk => by
  rw [List.length_append] at hk
  have hk : k < p.length + 1 := hk
  rcases Nat.lt_or_ge k p.length with h | h
  · rw [List.getD_eq_getElem?_getD, List.getElem?_append_left h, ← List.getD_eq_getElem?_getD]; exact hp k h
  · obtain rfl : k = p.length := by omega
    rw [List.getD_eq_getElem?_getD, List.getElem?_append_right (Nat.le_refl _), Nat.sub_self]; exact hn
theorem G120 {s : Si} {t0 : St8} (hO : SiOk s) (hs : TkSm s.tk) (hst : ∀ {t : St8} {k : Nat}, OnOk s t → spE s t k = 0 → OnOk s (spS s t k) ∧ (spS s t k).d.length = t.d.length + 1) (hd : ∀ {t : St8}, OnOk s t → t.d.length ≤ s.tk.length) :
    ∀ (f : Nat) (t : St8) (p : List Int) (b : List Int × Int), OnOk s t → s.tk.length + 1 ≤ f + t.d.length → tkNs s p → p.length + s.tk.length ≤ 100 + t.d.length →
      CallD Tryz.prog 126 [div s t, .c (ints p), .c (.bp 5 0), .c (.bp 3 0), .c (.bp 6 0)] (gsto s t0 b) 7 (.c .tru) (gsto s t0 (grwF s f t p b)) 7
  | 0, t, p, b, h, hf, _, _ => by have := hd h; omega
  | f + 1, t, p, b, h, hf, hp, hl => by
    have h6 := hO.n
    have hdl := hd h
    have HO := h
    have c1 := C81 (s := s) (l := p) ⟨hO, hp, by omega⟩
    refine CallD.of (vs := [.c .tru]) fn126m rfl rfl (by (refine qis ?_ ?_ <;> (repeat' first | exact rfl | (refine qS ?_; constructor)))) ?_
    refine Ops.yd rfl rfl rfl rfl rfl ?_
    (repeat' first | (refine Owe.same ?_; first | refine Owe.o ?_ | refine Owe.mk ?_ ?_) | (refine Fork.same ?_; (first | refine fkD ?_ ?_ | refine fkN ?_ ?_ | refine fkM ?_ ?_) <;> intro h) | refine MvQ.stay ?_)
    refine And.intro rfl (Exists.intro _ (And.intro rfl ?_))
    (repeat' first | (refine Owe.same ?_; first | refine Owe.o ?_ | refine Owe.mk ?_ ?_) | (refine Fork.same ?_; (first | refine fkD ?_ ?_ | refine fkN ?_ ?_ | refine fkM ?_ ?_) <;> intro h) | ((first | refine OpsL.same ?_ | refine OpsDL.same ?_); first | refine pK c1 rfl rfl ?_ | refine pK (C80d (l := p) (by omega)) rfl rfl ?_) | refine MvQ.stay ?_)
    · rename_i h0
      have e : updP s p b = (p, vaI s p) := if_pos h
      refine Exists.intro _ (Exists.intro _ (Exists.intro _ (And.intro rfl ?_)))
      (repeat' first | (refine Owe.same ?_; first | refine Owe.o ?_ | refine Owe.mk ?_ ?_) | (refine Fork.same ?_; (first | refine fkD ?_ ?_ | refine fkN ?_ ?_ | refine fkM ?_ ?_) <;> intro h) | refine MvQ.stay ?_)
      refine Sat.lp (fun ((k, B) : Nat × List Int × Int) => ⟨[(19, vi .i64 k), (18, vi .i64 s.tk.length), (5, .c (.rp (diD s t))), (1, .c (ints p)), (2, .c (.bp 5 0)), (3, .c (.bp 3 0)), (4, .c (.bp 6 0))], gsto s t0 B, 7⟩) (fun ((k, B) : Nat × List Int × Int) => k ≤ s.tk.length ∧ B = grwK s f t p (p, vaI s p) k) (fun ((k, _) : Nat × List Int × Int) => s.tk.length - k) (0, (p, vaI s p)) [] ⟨Nat.zero_le _, by rw [grwK]⟩ ?_ ?_
      · (refine qis ?_ ?_ <;> (repeat' first | exact rfl | (refine qS ?_; constructor)))
      · intro ⟨k, B⟩ ⟨hk, hB⟩
        refine Fork.dec (fun hlt => ?_) (fun hlt => ?_)
        · have hlt : k < s.tk.length := by omega
          have c2 := C78 (s := s) (t := t) (n := (k : Int)) ⟨HO, by omega, hs⟩
          obtain ⟨E, hE⟩ : ∃ E, E = spE s t (k : Int) := ⟨_, rfl⟩
          rw [← hE] at c2
          have c3 := C127 (l := p) (by omega)
          (repeat' first | (refine Owe.same ?_; first | refine Owe.o ?_ | refine Owe.mk ?_ ?_) | (refine Fork.same ?_; (first | refine fkD ?_ ?_ | refine fkN ?_ ?_ | refine fkM ?_ ?_) <;> intro h) | ((first | refine OpsL.same ?_ | refine OpsDL.same ?_); first | refine pK C68 rfl rfl ?_ | refine pK c2 rfl rfl ?_ | refine pK c3 rfl rfl ?_) | refine MvQ.stay ?_)
          · exact absurd h (by decide)
          · have hz : spE s t (k : Int) = 0 := hE.symm.trans h
            have h1 := hst HO hz
            have h2 : tkNs s (p ++ [(k : Int)]) := tkNs_app hp ⟨by omega, by omega⟩
            refine OpsDL.cm (gsto s t0 B) _ ((G120 hO hs hst hd f (spS s t k) (p ++ [(k : Int)]) B h1.1 (by omega) h2 (by rw [List.length_append]; show p.length + 1 + _ ≤ _; omega)).at _) (sub_cons rfl (sub_cons rfl (sub_cons rfl (sub_cons rfl (sub_cons rfl (sub_cons rfl sub_nil)))))) rfl rfl ?_ ?_
            · refine VEqs.ris (qvs ?_)
              (repeat' first | exact rfl | (refine qS ?_; constructor))
              exact ⟨_, rfl, rfl⟩
            · (repeat' first | (refine Owe.same ?_; first | refine Owe.o ?_ | refine Owe.mk ?_ ?_) | (refine Fork.same ?_; (first | refine fkD ?_ ?_ | refine fkN ?_ ?_ | refine fkM ?_ ?_) <;> intro h) | refine MvQ.stay ?_)
              have hB2 : grwF s f (spS s t k) (p ++ [(k : Int)]) B = grwK s f t p (p, vaI s p) (k + 1) := by rw [grwK, if_pos hz, ← hB]
              refine again (k + 1, _) [] ⟨hlt, hB2⟩ (by show s.tk.length - (k + 1) < s.tk.length - k; omega) ?_
              (refine qis ?_ ?_ <;> (repeat' first | exact rfl | (refine qS ?_; constructor)))
          · have hB2 : B = grwK s f t p (p, vaI s p) (k + 1) := by rw [grwK, if_neg (fun hh => h (hE.trans hh)), ← hB]
            refine again (k + 1, B) [] ⟨hlt, hB2⟩ (by show s.tk.length - (k + 1) < s.tk.length - k; omega) ?_
            (refine qis ?_ ?_ <;> (repeat' first | exact rfl | (refine qS ?_; constructor)))
        · have hkk : k = s.tk.length := by omega
          have hfin : grwF s (f + 1) t p b = B := by rw [grwF, e, ← hkk, hB]
          rw [hfin]
          (repeat' first | (refine Owe.same ?_; first | refine Owe.o ?_ | refine Owe.mk ?_ ?_) | (refine Fork.same ?_; (first | refine fkD ?_ ?_ | refine fkN ?_ ?_ | refine fkM ?_ ?_) <;> intro h) | refine MvQ.stay ?_)
          exact RetQ.is rfl
    · have e : updP s p b = b := if_neg h
      refine Exists.intro _ (Exists.intro _ (Exists.intro _ (And.intro rfl ?_)))
      (repeat' first | (refine Owe.same ?_; first | refine Owe.o ?_ | refine Owe.mk ?_ ?_) | (refine Fork.same ?_; (first | refine fkD ?_ ?_ | refine fkN ?_ ?_ | refine fkM ?_ ?_) <;> intro h) | refine MvQ.stay ?_)
      refine Sat.lp (fun ((k, B) : Nat × List Int × Int) => ⟨[(19, vi .i64 k), (18, vi .i64 s.tk.length), (5, .c (.rp (diD s t))), (1, .c (ints p)), (2, .c (.bp 5 0)), (3, .c (.bp 3 0)), (4, .c (.bp 6 0))], gsto s t0 B, 7⟩) (fun ((k, B) : Nat × List Int × Int) => k ≤ s.tk.length ∧ B = grwK s f t p b k) (fun ((k, _) : Nat × List Int × Int) => s.tk.length - k) (0, b) [] ⟨Nat.zero_le _, by rw [grwK]⟩ ?_ ?_
      · (refine qis ?_ ?_ <;> (repeat' first | exact rfl | (refine qS ?_; constructor)))
      · intro ⟨k, B⟩ ⟨hk, hB⟩
        refine Fork.dec (fun hlt => ?_) (fun hlt => ?_)
        · have hlt : k < s.tk.length := by omega
          have c2 := C78 (s := s) (t := t) (n := (k : Int)) ⟨HO, by omega, hs⟩
          obtain ⟨E, hE⟩ : ∃ E, E = spE s t (k : Int) := ⟨_, rfl⟩
          rw [← hE] at c2
          have c3 := C127 (l := p) (by omega)
          (repeat' first | (refine Owe.same ?_; first | refine Owe.o ?_ | refine Owe.mk ?_ ?_) | (refine Fork.same ?_; (first | refine fkD ?_ ?_ | refine fkN ?_ ?_ | refine fkM ?_ ?_) <;> intro h) | ((first | refine OpsL.same ?_ | refine OpsDL.same ?_); first | refine pK C68 rfl rfl ?_ | refine pK c2 rfl rfl ?_ | refine pK c3 rfl rfl ?_) | refine MvQ.stay ?_)
          · exact absurd h (by decide)
          · have hz : spE s t (k : Int) = 0 := hE.symm.trans h
            have h1 := hst HO hz
            have h2 : tkNs s (p ++ [(k : Int)]) := tkNs_app hp ⟨by omega, by omega⟩
            refine OpsDL.cm (gsto s t0 B) _ ((G120 hO hs hst hd f (spS s t k) (p ++ [(k : Int)]) B h1.1 (by omega) h2 (by rw [List.length_append]; show p.length + 1 + _ ≤ _; omega)).at _) (sub_cons rfl (sub_cons rfl (sub_cons rfl (sub_cons rfl (sub_cons rfl (sub_cons rfl sub_nil)))))) rfl rfl ?_ ?_
            · refine VEqs.ris (qvs ?_)
              (repeat' first | exact rfl | (refine qS ?_; constructor))
              exact ⟨_, rfl, rfl⟩
            · (repeat' first | (refine Owe.same ?_; first | refine Owe.o ?_ | refine Owe.mk ?_ ?_) | (refine Fork.same ?_; (first | refine fkD ?_ ?_ | refine fkN ?_ ?_ | refine fkM ?_ ?_) <;> intro h) | refine MvQ.stay ?_)
              have hB2 : grwF s f (spS s t k) (p ++ [(k : Int)]) B = grwK s f t p b (k + 1) := by rw [grwK, if_pos hz, ← hB]
              refine again (k + 1, _) [] ⟨hlt, hB2⟩ (by show s.tk.length - (k + 1) < s.tk.length - k; omega) ?_
              (refine qis ?_ ?_ <;> (repeat' first | exact rfl | (refine qS ?_; constructor)))
          · have hB2 : B = grwK s f t p b (k + 1) := by rw [grwK, if_neg (fun hh => h (hE.trans hh)), ← hB]
            refine again (k + 1, B) [] ⟨hlt, hB2⟩ (by show s.tk.length - (k + 1) < s.tk.length - k; omega) ?_
            (refine qis ?_ ?_ <;> (repeat' first | exact rfl | (refine qS ?_; constructor)))
        · have hkk : k = s.tk.length := by omega
          have hfin : grwF s (f + 1) t p b = B := by rw [grwF, e, ← hkk, hB]
          rw [hfin]
          (repeat' first | (refine Owe.same ?_; first | refine Owe.o ?_ | refine Owe.mk ?_ ?_) | (refine Fork.same ?_; (first | refine fkD ?_ ?_ | refine fkN ?_ ?_ | refine fkM ?_ ?_) <;> intro h) | refine MvQ.stay ?_)
          exact RetQ.is rfl
end Go.Pw

set_option linter.unusedSimpArgs false
set_option linter.unusedVariables false
set_option maxHeartbeats 4000000
namespace Go.Pw
set_option maxRecDepth 2000
open Go Go.Proofs A1 A2 A3 A4
theorem Srt.ge {l : List Int} (h : Srt l) (h0 : ∀ i, i < l.length → 0 ≤ l.getD i 0) : ∀ i, i < l.length → (i : Int) ≤ l.getD i 0
  | 0, hi => h0 0 hi
  | i + 1, hi => by
    have := Srt.ge h h0 i (by omega)
    have := h i hi
    omega
theorem OnOk.dl {s : Si} {t : St8} (h : OnOk s t) : t.d.length ≤ s.tk.length := by
  obtain ⟨h1, h2⟩ := Srt.of h.d
  rcases Nat.eq_zero_or_pos t.d.length with h0 | h0
  · omega
  · have := h1.ge (fun i hi => (h2 i hi).1) (t.d.length - 1) (by omega)
    have := (h2 (t.d.length - 1) (by omega)).2
    omega
theorem Srt.to {l : List Int} {b : Int} (h : Srt l) (h2 : ∀ i, i < l.length → 0 ≤ l.getD i 0 ∧ l.getD i 0 ≤ b - 1) : (ascE l b).2 = 0 := by
  rw [ascE, eachN_ok]
  intro i hi
  rw [ascN, fst2, unl0 (by decide), unl0 (by decide)]
  refine ⟨h2 i hi, ?_⟩
  rw [lastI]
  split
  · have := (h2 i hi).1; omega
  · have := h (i - 1) (by omega)
    rwa [show i - 1 + 1 = i by omega] at this
theorem insI_srt {l : List Int} {x : Int} (h : Srt l) (hx : x ∉ l) : Srt (insI l (bsI x l) x) := fun i hi => by
  have hle := bsI_le x l
  rw [insI_len hle] at hi
  rw [insI_get hle, insI_get hle]
  rcases Nat.lt_trichotomy (i + 1) (bsI x l) with h1 | h1 | h1
  · rw [if_pos (by omega), if_pos h1]; exact h i (by omega)
  · rw [if_pos (by omega), if_neg (by omega), if_pos h1]; exact bsI_lt x (by omega)
  · rcases Nat.eq_or_lt_of_le (show bsI x l ≤ i by omega) with h2 | h2
    · rw [if_neg (by omega), if_pos h2.symm, if_neg (by omega), if_neg (by omega), Nat.add_sub_cancel]
      have h3 := bsI_ge x h (Nat.le_of_eq h2) (by omega)
      have h4 : l.getD i 0 ≠ x := fun e => hx (e ▸ getD_mem 0 (by omega))
      omega
    · rw [if_neg (by omega), if_neg (by omega), if_neg (by omega), if_neg (by omega), Nat.add_sub_cancel]
      have := h (i - 1) (by omega)
      rwa [show i - 1 + 1 = i by omega] at this
theorem insI_bd {l : List Int} {x b : Int} {k : Nat} (hk : k ≤ l.length) (h2 : ∀ i, i < l.length → 0 ≤ l.getD i 0 ∧ l.getD i 0 ≤ b) (hx : 0 ≤ x ∧ x ≤ b) : ∀ i, i < (insI l k x).length → 0 ≤ (insI l k x).getD i 0 ∧ (insI l k x).getD i 0 ≤ b := fun i hi => by
  rw [insI_len hk] at hi
  rw [insI_get hk]
  split
  · exact h2 i (by omega)
  · split
    · exact hx
    · exact h2 (i - 1) (by omega)
theorem spS_ok {s : Si} {t : St8} {n : Int} (h : OnOk s t) (he : spE s t n = 0) : (spS s t n = nxS s t n ∧ nxE s t n = 0 ∧ spF s t n = 0 ∧ 0 ≤ n ∧ n < s.tk.length) ∧ OnOk s (nxS s t n) ∧ (nxS s t n).d.length = t.d.length + 1 := by
  rw [spE] at he
  split at he
  · rename_i hw
    have hn := of_decide_eq_true hw
    split at he
    · rename_i hf
      have e1 : spS s t n = nxS s t n := by rw [spS, if_pos hw, if_pos hf]
      refine ⟨⟨e1, he, hf, hn.1, by omega⟩, ?_, ?_⟩
      · rw [nxE, nxF, fst3, unl0 (by decide), unl0 (by decide), unb_ok (by decide)] at he
        obtain ⟨a1, a2, a3⟩ := he
        have hB := (h.ok.t n.toNat (by omega)).b
        have hsw := trT_bd (p := (tkA s n).p) h
        have hD := nxT_b (n := n) h hB hsw
        have hm := hmT_bd hD
        have hr := of_decide_eq_true a3
        have h2 := h.tm
        have h3 := h.en
        have h4 := h.ok.e
        have h5 := h.oil
        rw [spF, fst2, unb_ok (by decide), unb_ok (by decide)] at hf
        have hx : n ∉ t.d := by simpa using hf.1
        have m1 : 0 ≤ hmT s (nxS s t n) * s.swim := Int.mul_nonneg hm.1 (by omega)
        obtain ⟨b5, b6, b7, b8, b9, b10⟩ := hB
        have m2 : 0 ≤ trT s t (tkA s n).p * s.swim := Int.mul_nonneg hsw.1 (by omega)
        have m3 : 0 ≤ (max (t.t + trT s t (tkA s n).p) (tkA s n).lo - (t.t + trT s t (tkA s n).p)) * s.idle := Int.mul_nonneg (by omega) (by omega)
        have hle := bsI_le n t.d
        obtain ⟨s1, s2⟩ := Srt.of h.d
        refine ⟨h.ok, hD.pl, ?_, ?_, ?_, ?_⟩
        · have : (nxS s t n).t = max (t.t + trT s t (tkA s n).p) (tkA s n).lo + (tkA s n).d := rfl
          have key : (nxS s t n).t + hmT s (nxS s t n) ≤ s.fin := hr.2
          have hm0 : 0 ≤ hmT s (nxS s t n) := hm.1
          generalize hmT s (nxS s t n) = H at key hm0
          rw [this] at key ⊢
          clear hr hm hD a3 a2
          simp only [tkA] at *
          omega
        · have : (nxS s t n).w = t.w - (trT s t (tkA s n).p * s.swim + (max (t.t + trT s t (tkA s n).p) (tkA s n).lo - (t.t + trT s t (tkA s n).p)) * s.idle + (tkA s n).w) := rfl
          have key : s.res ≤ (nxS s t n).w - hmT s (nxS s t n) * s.swim := hr.1
          generalize hmT s (nxS s t n) * s.swim = H at key m1
          rw [this] at key ⊢
          clear hr hm hD a3 a2
          simp only [tkA] at *
          omega
        · have : (nxS s t n).o = t.o - (tkA s n).o := rfl
          have key : 0 ≤ (nxS s t n).o := a2
          rw [this] at key ⊢
          clear hr hm hD a3 a2
          simp only [tkA] at *
          omega
        · exact (insI_srt s1 hx).to (insI_bd hle s2 (by omega))
      · exact insI_len (bsI_le n t.d)
    · rename_i hf; exact absurd he hf
  · cases he
theorem nmAt7 : nmAt 5 [5, 6] = id := by
  funext i
  match i with
  | 0 => rfl
  | 1 => rfl
  | 2 => rfl
  | 3 => rfl
  | 4 => rfl
  | 5 => rfl
  | 6 => rfl
  | n + 7 => rfl
theorem OpsL.is7 {P : Program} [Mix P] {N : Nat} {ops : List LIns} {K : St → Prop} {st : St} (st0 : St) (h : Is 5 st st0 [5, 6]) (k : OpsL P N 5 ops st0 K) : OpsL P N 5 ops st K := by
  have := h.wk
  rw [nmAt7] at this
  exact ⟨Ops.from (Mv.weaken this) k.h⟩
/-- The best plan, and its value. -/
abbrev bestP (s : Si) (t : St8) : List Int × Int := grwF s (s.tk.length + 1) t [] ([], 0)
theorem C67 {s : Si} {t : St8} : (OnOk s t ∧ TkSm s.tk) → PFD Tryz.prog 67 [div s t, .c (.fn 68 [])] (.tup [.c (ints (bestP s t).1), vi .i64 (bestP s t).2]) := fun ⟨h, hs⟩ => by
  have h6 := h.ok.n
  have g := G120 (t0 := t) h.ok hs (fun {t' k} h1 h2 => by
    obtain ⟨⟨e, _⟩, h3, h4⟩ := spS_ok h1 h2
    rw [e]; exact ⟨h3, h4⟩) (fun h => h.dl) (s.tk.length + 1) t [] ([], 0) h (by omega) (fun k hk => by cases hk) (by show 0 + _ ≤ _; omega)
  obtain ⟨B, hB⟩ : ∃ B, B = bestP s t := ⟨_, rfl⟩
  change CallD _ _ _ _ _ _ (gsto s t (bestP s t)) _ at g
  rw [← hB] at g ⊢
  refine pi2 fn67 ?_
  (repeat' first | (refine Owe.same ?_; first | refine Owe.o ?_ | refine Owe.mk ?_ ?_) | (refine Fork.same ?_; (first | refine fkD ?_ ?_ | refine fkN ?_ ?_ | refine fkM ?_ ?_) <;> intro h) | refine MvQ.stay ?_)
  refine Ops.cs rfl rfl (CallS.of fn103 rfl ?_)
  (repeat' first | (refine Owe.same ?_; first | refine Owe.o ?_ | refine Owe.mk ?_ ?_) | (refine Fork.same ?_; (first | refine fkD ?_ ?_ | refine fkN ?_ ?_ | refine fkM ?_ ?_) <;> intro h) | refine MvQ.stay ?_)
  refine Sat.keep [2, 6, 7, 12] ?_
  refine Sat.rf rfl rfl (CallS.of fn125 rfl ?_)
  (repeat' first | (refine Owe.same ?_; first | refine Owe.o ?_ | refine Owe.mk ?_ ?_) | (refine Fork.same ?_; (first | refine fkD ?_ ?_ | refine fkN ?_ ?_ | refine fkM ?_ ?_) <;> intro h) | refine MvQ.stay ?_)
  refine OpsL.is7 (⟨[(6, .c (.fn 126 [5, 3, 6])), (7, div s t)], [(6, .box [.fn 126 [5, 3, 6]]), (5, .box [.yd 4]), (4, .lp [(2, .c (.rp (diD s t))), (6, .c (.bp 0 0)), (7, .c (.bp 1 0)), (12, .c (.fn 125 [3, 2]))] .ready none (RR Tryz.prog 26 [13] ra67 rb67)), (3, .box [.fn 68 []]), (2, .box (diC s t)), (1, .box [int 0]), (0, .box [ints []])], 7⟩) ?_ ?_
  · (refine qis ?_ ?_ <;> (repeat' first | exact rfl | (refine qS ?_; constructor)))
  refine OpsL.cmi (gsto s t ([], 0)) _ (g.at _) (sub_cons rfl (sub_cons rfl (sub_cons rfl (sub_cons rfl (sub_cons rfl (sub_cons rfl sub_nil)))))) rfl rfl ?_ ?_
  · refine VEqs.ris (qvs ?_)
    (repeat' first | exact rfl | (refine qS ?_; constructor))
  · (repeat' first | (refine Owe.same ?_; first | refine Owe.o ?_ | refine Owe.mk ?_ ?_) | (refine Fork.same ?_; (first | refine fkD ?_ ?_ | refine fkN ?_ ?_ | refine fkM ?_ ?_) <;> intro h) | refine MvQ.stay ?_)
    (refine rqK rfl ?_; (repeat' first | exact rfl | (refine qS ?_; constructor)))
/-- The best plan of a site and a state, its value, the error. -/
theorem C22 {s : Si} {t : St8} : (SiSm s ∧ t.d.length ≤ 1000) → PFD Tryz.prog 22 [siv s, stv t] (.tup [.c (ints (if orE s t = 0 then (bestP s t).1 else [])), vi .i64 (if orE s t = 0 then (bestP s t).2 else 0), vi .i64 (orE s t)]) := fun ⟨hs, hd⟩ => by
  have c1 := C66 (s := s) (t := t) ⟨hs, by omega⟩
  by_cases h0 : orE s t = 0
  · have hO : onE s t = 0 := by
      rw [orE] at h0
      split at h0
      · assumption
      · rename_i h; exact absurd h0 h
    have c2 := C67 (s := s) (t := t) ⟨OnOk.of hO, hs.t⟩
    rw [if_pos h0, if_pos h0]
    generalize bestP s t = B at *
    refine pi3 fn22 ?_
    (repeat' first | (refine Owe.same ?_; first | refine Owe.o ?_ | refine Owe.mk ?_ ?_) | (refine Fork.same ?_; (first | refine fkD ?_ ?_ | refine fkN ?_ ?_ | refine fkM ?_ ?_) <;> intro h) | ((first | refine OpsL.same ?_ | refine OpsDL.same ?_); first | refine pK c1 rfl rfl ?_) | refine MvQ.stay ?_)
    · exact absurd h0 h
    · (repeat' first | (refine Owe.same ?_; first | refine Owe.o ?_ | refine Owe.mk ?_ ?_) | (refine Fork.same ?_; (first | refine fkD ?_ ?_ | refine fkN ?_ ?_ | refine fkM ?_ ?_) <;> intro h) | ((first | refine OpsL.same ?_ | refine OpsDL.same ?_); first | refine pK c2 rfl rfl ?_) | refine MvQ.stay ?_)
      (refine rqK rfl ?_; (repeat' first | exact rfl | (refine qS ?_; constructor)))
      exact h0.symm
  · rw [if_neg h0, if_neg h0]
    refine pi3 fn22 ?_
    (repeat' first | (refine Owe.same ?_; first | refine Owe.o ?_ | refine Owe.mk ?_ ?_) | (refine Fork.same ?_; (first | refine fkD ?_ ?_ | refine fkN ?_ ?_ | refine fkM ?_ ?_) <;> intro h) | ((first | refine OpsL.same ?_ | refine OpsDL.same ?_); first | refine pK c1 rfl rfl ?_) | refine MvQ.stay ?_)
    · (refine rqK rfl ?_; (repeat' first | exact rfl | (refine qS ?_; constructor)))
    · exact absurd h h0
end Go.Pw

set_option linter.unusedSimpArgs false
set_option linter.unusedVariables false
set_option maxHeartbeats 4000000
namespace Go.Pw
set_option maxRecDepth 2000
open Go Go.Proofs A1 A2 A3 A4
/-- The order of lists. -/
def cmpL : List Int → List Int → Int
  | [], [] => 0
  | [], _ :: _ => -1
  | _ :: _, [] => 1
  | x :: l, y :: m => if cmpI x y = 0 then cmpL l m else cmpI x y
theorem cmpL_drop {l m : List Int} {k : Nat} (h : k < l.length) (h2 : k < m.length) : cmpL (l.drop k) (m.drop k) = if cmpI (l.getD k 0) (m.getD k 0) = 0 then cmpL (l.drop (k + 1)) (m.drop (k + 1)) else cmpI (l.getD k 0) (m.getD k 0) := by
  rw [List.drop_eq_getElem_cons h, List.drop_eq_getElem_cons h2, cmpL, List.getD_eq_getElem?_getD, List.getElem?_eq_getElem h, List.getD_eq_getElem?_getD, List.getElem?_eq_getElem h2]
  rfl
theorem C62 {l m : List Int} : (l.length ≤ 1000000 ∧ m.length ≤ 1000000) → PFD Tryz.prog 62 [.c (ints l), .c (ints m)] (vi .i64 (cmpL l m)) := fun ⟨hl, hm⟩ => by
  obtain ⟨q, hq⟩ : ∃ q, q = cmpL l m := ⟨_, rfl⟩
  rw [← hq]
  refine pi1 fn62 ?_
  (repeat' first | (refine Owe.same ?_; first | refine Owe.o ?_ | refine Owe.mk ?_ ?_) | (refine Fork.same ?_; (first | refine fkD ?_ ?_ | refine fkN ?_ ?_ | refine fkM ?_ ?_) <;> intro h) | refine MvQ.stay ?_)
  refine Sat.lp0 (fun k : Nat => [(11, vi .i64 k), (10, vi .i64 l.length), (9, .c (ints l)), (0, .c (ints l)), (1, .c (ints m))]) (fun k => k ≤ l.length ∧ k ≤ m.length ∧ q = cmpL (l.drop k) (m.drop k)) (fun k => l.length - k) 0 ⟨Nat.zero_le _, Nat.zero_le _, hq⟩ (by ((first | refine qen ?_ | refine qvs ?_ | refine qeq ?_ | refine qst ?_ | refine qv ?_ | refine qc ?_ | refine qe ?_ | refine qcs ?_ | skip); (repeat' first | exact rfl | (refine qS ?_; constructor)))) ?_
  intro k ⟨h1, h2, h3⟩
  refine Fork.dec (fun hlt => ?_) (fun hlt => ?_)
  · have hlt : k < l.length := by omega
    (repeat' first | (refine Owe.same ?_; first | refine Owe.o ?_ | refine Owe.mk ?_ ?_) | (refine Fork.same ?_; (first | refine fkD ?_ ?_ | refine fkN ?_ ?_ | refine fkM ?_ ?_) <;> intro h) | ((first | refine OpsL.same ?_ | refine OpsDL.same ?_); first | refine pK C61 rfl rfl ?_) | refine MvQ.stay ?_)
    · have h4 : m.length ≤ k := by omega
      rw [List.drop_of_length_le h4, List.drop_eq_getElem_cons hlt, cmpL] at h3
      subst h3; (refine rqK rfl ?_; (repeat' first | exact rfl | (refine qS ?_; constructor)))
    · rename_i hk
      have h : ¬ cmpI (l.getD k 0) (m.getD k 0) = 0 := h
      rw [cmpL_drop hlt (by omega), if_neg h] at h3
      subst h3; (refine rqK rfl ?_; (repeat' first | exact rfl | (refine qS ?_; constructor)))
    · rename_i hk
      have h : cmpI (l.getD k 0) (m.getD k 0) = 0 := h
      rw [cmpL_drop hlt (by omega), if_pos h] at h3
      exact again0 (k + 1) ⟨hlt, by omega, h3⟩ (by omega) (by ((first | refine qen ?_ | refine qvs ?_ | refine qeq ?_ | refine qst ?_ | refine qv ?_ | refine qc ?_ | refine qe ?_ | refine qcs ?_ | skip); (repeat' first | exact rfl | (refine qS ?_; constructor))))
  · rw [List.drop_of_length_le (show l.length ≤ k by omega)] at h3
    (repeat' first | (refine Owe.same ?_; first | refine Owe.o ?_ | refine Owe.mk ?_ ?_) | (refine Fork.same ?_; (first | refine fkD ?_ ?_ | refine fkN ?_ ?_ | refine fkM ?_ ?_) <;> intro h) | refine MvQ.stay ?_)
    · rw [List.drop_eq_getElem_cons (show k < m.length by omega), cmpL] at h3
      subst h3; (refine rqK rfl ?_; (repeat' first | exact rfl | (refine qS ?_; constructor)))
    · rw [List.drop_of_length_le (show m.length ≤ k by omega), cmpL] at h3
      subst h3; (refine rqK rfl ?_; (repeat' first | exact rfl | (refine qS ?_; constructor)))
end Go.Pw

set_option linter.unusedSimpArgs false
set_option linter.unusedVariables false
set_option maxHeartbeats 1000000
namespace Go.Pw
set_option maxRecDepth 2000
open Go Go.Proofs A1 A2 A3 A4
theorem C98a {a b : List Int} : (a.length ≤ 1000 ∧ b.length ≤ 1000 ∧ 0 < (a.length : Int) + b.length) → PFD Tryz.prog 98 [.c (.d (.sl 1 2 fun i => [[intsD a], [intsD b]].getD i []))] (.c (ints (a ++ b))) := fun ⟨ha, hb, h0⟩ => by
  refine pi1 fn98 ?_
  (repeat' first | (refine Owe.same ?_; first | refine Owe.o ?_ | refine Owe.mk ?_ ?_) | (refine Fork.same ?_; (first | refine fkD ?_ ?_ | refine fkN ?_ ?_ | refine fkM ?_ ?_) <;> intro h) | refine MvQ.stay ?_)
  refine Sat.lp0 (fun k : Nat => [(11, vi .i64 k), (10, vi .i64 2), (9, .c (.d (.sl 1 2 fun i => [[intsD a], [intsD b]].getD i []))), (0, .c (.d (.sl 1 2 fun i => [[intsD a], [intsD b]].getD i []))), (3, vi .i64 (if k = 0 then 0 else if k = 1 then (a.length : Int) else a.length + b.length))]) (fun k => k ≤ 2) (fun k => 2 - k) 0 (by decide) (by ((first | refine qen ?_ | refine qvs ?_ | refine qeq ?_ | refine qst ?_ | refine qv ?_ | refine qc ?_ | refine qe ?_ | refine qcs ?_ | skip); (repeat' first | exact rfl | (refine qS ?_; constructor)))) ?_
  intro k hk
  match k, hk with
  | 0, _ =>
    (repeat' first | (refine Owe.same ?_; first | refine Owe.o ?_ | refine Owe.mk ?_ ?_) | (refine Fork.same ?_; (first | refine fkY ?_ | refine fkF ?_ | ((first | refine fkD ?_ ?_ | refine fkN ?_ ?_ | refine fkM ?_ ?_) <;> intro h))) | ((first | refine OpsL.same ?_ | refine OpsDL.same ?_); first | refine oK C61 rfl rfl rfl ?_) | refine MvQ.stay ?_)
    refine again0 1 (by decide) (by decide) ?_
    ((first | refine qen ?_ | refine qvs ?_ | refine qeq ?_ | refine qst ?_ | refine qv ?_ | refine qc ?_ | refine qe ?_ | refine qcs ?_ | skip); (repeat' first | exact rfl | (refine qS ?_; constructor)))
    simp
  | 1, _ =>
    (repeat' first | (refine Owe.same ?_; first | refine Owe.o ?_ | refine Owe.mk ?_ ?_) | (refine Fork.same ?_; (first | refine fkY ?_ | refine fkF ?_ | ((first | refine fkD ?_ ?_ | refine fkN ?_ ?_ | refine fkM ?_ ?_) <;> intro h))) | ((first | refine OpsL.same ?_ | refine OpsDL.same ?_); first | refine oK C61 rfl rfl rfl ?_) | refine MvQ.stay ?_)
    refine again0 2 (by decide) (by decide) ?_
    ((first | refine qen ?_ | refine qvs ?_ | refine qeq ?_ | refine qst ?_ | refine qv ?_ | refine qc ?_ | refine qe ?_ | refine qcs ?_ | skip); (repeat' first | exact rfl | (refine qS ?_; constructor)))
  | 2, _ =>
    (repeat' first | (refine Owe.same ?_; first | refine Owe.o ?_ | refine Owe.mk ?_ ?_) | (refine Fork.same ?_; (first | refine fkY ?_ | refine fkF ?_ | ((first | refine fkD ?_ ?_ | refine fkN ?_ ?_ | refine fkM ?_ ?_) <;> intro h))) | ((first | refine OpsL.same ?_ | refine OpsDL.same ?_); first | refine oK C61 rfl rfl rfl ?_) | refine MvQ.stay ?_)
    refine Ops.cs rfl rfl (CallS.of fn121 rfl ?_)
    (repeat' first | (refine Owe.same ?_; first | refine Owe.o ?_ | refine Owe.mk ?_ ?_) | (refine Fork.same ?_; (first | refine fkY ?_ | refine fkF ?_ | ((first | refine fkD ?_ ?_ | refine fkN ?_ ?_ | refine fkM ?_ ?_) <;> intro h))) | ((first | refine OpsL.same ?_ | refine OpsDL.same ?_); first | refine oK C61 rfl rfl rfl ?_) | refine MvQ.stay ?_)
    (repeat' first | (refine Owe.same ?_; first | refine Owe.o ?_ | refine Owe.mk ?_ ?_) | (refine Fork.same ?_; (first | refine fkD ?_ ?_ | refine fkN ?_ ?_ | refine fkM ?_ ?_) <;> intro h) | refine MvQ.stay ?_)
    refine Sat.lp (fun ((k, acc) : Nat × List Int) => ⟨[(27, vi .i64 k), (26, vi .i64 2), (25, .c (.d (.sl 1 2 fun i => [[intsD a], [intsD b]].getD i []))), (6, .c (.ms 0 acc.length))], [(0, rowv 3 1 r1 0 acc)], 1⟩) (fun ((k, acc) : Nat × List Int) => (k = 0 ∧ acc = []) ∨ (k = 1 ∧ acc = a) ∨ (k = 2 ∧ acc = a ++ b)) (fun ((k, _) : Nat × List Int) => 2 - k) (0, []) [1] (.inl ⟨rfl, rfl⟩) ?_ ?_
    · (refine qis ?_ ?_ <;> (repeat' first | exact rfl | (refine qS ?_; constructor)))
    · intro ⟨k, acc⟩ hk
      rcases hk with ⟨rfl, rfl⟩ | ⟨rfl, rfl⟩ | ⟨rfl, rfl⟩
      · (repeat' first | (refine Owe.same ?_; first | refine Owe.o ?_ | refine Owe.mk ?_ ?_) | (refine Fork.same ?_; (first | refine fkY ?_ | refine fkF ?_ | ((first | refine fkD ?_ ?_ | refine fkN ?_ ?_ | refine fkM ?_ ?_) <;> intro h))) | ((first | refine OpsL.same ?_ | refine OpsDL.same ?_); first | refine oK C61 rfl rfl rfl ?_) | refine MvQ.stay ?_)
        refine again (1, a) [1] (.inr (.inl ⟨rfl, rfl⟩)) (by show 2 - 1 < 2 - 0; decide) ?_
        (refine qis ?_ ?_ <;> (repeat' first | exact rfl | (refine qS ?_; constructor)))
        all_goals simp
      · (repeat' first | (refine Owe.same ?_; first | refine Owe.o ?_ | refine Owe.mk ?_ ?_) | (refine Fork.same ?_; (first | refine fkY ?_ | refine fkF ?_ | ((first | refine fkD ?_ ?_ | refine fkN ?_ ?_ | refine fkM ?_ ?_) <;> intro h))) | ((first | refine OpsL.same ?_ | refine OpsDL.same ?_); first | refine oK C61 rfl rfl rfl ?_) | refine MvQ.stay ?_)
        refine again (2, acc ++ b) [1] (.inr (.inr ⟨rfl, rfl⟩)) (by show 2 - 2 < 2 - 1; decide) ?_
        (refine qis ?_ ?_ <;> (repeat' first | exact rfl | (refine qS ?_; constructor)))
        all_goals simp
      · (repeat' first | (refine Owe.same ?_; first | refine Owe.o ?_ | refine Owe.mk ?_ ?_) | (refine Fork.same ?_; (first | refine fkY ?_ | refine fkF ?_ | ((first | refine fkD ?_ ?_ | refine fkN ?_ ?_ | refine fkM ?_ ?_) <;> intro h))) | ((first | refine OpsL.same ?_ | refine OpsDL.same ?_); first | refine oK C61 rfl rfl rfl ?_) | refine MvQ.stay ?_)
        refine rqF 0 _ rfl rfl rfl ?_; (repeat' first | exact rfl | (refine qS ?_; constructor))
end Go.Pw
