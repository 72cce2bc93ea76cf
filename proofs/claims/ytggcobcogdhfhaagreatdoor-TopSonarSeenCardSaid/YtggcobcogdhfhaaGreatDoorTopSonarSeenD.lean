/- Steps toward the row of this claim: part 4 of 5. Proved as named below, on no condition but those that each theorem states. -/
import Derived.Test.YtggcobcogdhfhaaGreatDoorTopSonarSeenC
import Derived.Test.YtggcobcogdhfhaaGreatDoorProg
set_option linter.unusedVariables false
set_option maxHeartbeats 2000000
set_option maxRecDepth 100000
namespace Go.Pw
open Go Go.Proofs
/-- moonpool/moonpoolref04.Crossed -/
def lc61 : LCode :=
  (.seq (.region [⟨some 3, .boxS (.tmp 0), none⟩, ⟨some 6, .mv (.const (.slice none 0 0)), none⟩]) (.seq (.region [⟨some 7, .mv (.const (.slice none 0 0)), none⟩]) (.seq (.seq
    (.region [⟨some 8, .mv (.const (.int .i64 0)), none⟩]) (.block 0 (.loop (.seq (.seq (.region [⟨some 11, .mv (.tmp 8), none⟩, ⟨some 12, .mv (.tmp 2), none⟩, ⟨some 13, .bin .lss
    (.tmp 11) (.tmp 12), none⟩]) (.cond (.tmp 13) .skip (.exit 0))) (.seq (.block 1 (.seq (.region [⟨some 9, .mv (.const (.int .i64 0)), none⟩]) (.block 2 (.loop (.seq (.seq
    (.region [⟨some 16, .mv (.tmp 9), none⟩, ⟨some 17, .mv (.tmp 1), none⟩, ⟨some 18, .bin .lss (.tmp 16) (.tmp 17), none⟩]) (.cond (.tmp 18) .skip (.exit 2))) (.seq (.block 3 (.seq
    (.region [⟨some 21, .mv (.tmp 9), none⟩, ⟨some 22, .mv (.tmp 8), none⟩, ⟨some 23, .build [(.int .i64 0), (.int .i64 0)] [(0, 1, (.tmp 21)), (1, 1, (.tmp 22))], none⟩, ⟨some 10,
    .alloc [(.int .i64 0), (.int .i64 0)], none⟩, ⟨none, .store 2 (.tmp 10) (.tmp 23), none⟩]) (.seq (.region [⟨some 24, .load true 5 (.tmp 3), none⟩, ⟨some 25, .load true 2 (.tmp
    10), none⟩, ⟨some 26, .call (.func 59) [(.tmp 24), (.tmp 25)], none⟩]) (.cond (.tmp 26) (.region [⟨some 27, .mv (.tmp 7), none⟩, ⟨some 28, .load true 2 (.tmp 10), none⟩, ⟨some
    29, .lit false 49 2 [(.tmp 28)], none⟩, ⟨some 30, .append true 49 2 16 (.tmp 27) (.tmp 29), none⟩, ⟨some 7, .mv (.tmp 30), none⟩]) .skip)))) (.region [⟨some 19, .mv (.tmp 9),
    none⟩, ⟨some 20, .bin .add (.tmp 19) (.const (.int .i64 1)), none⟩, ⟨some 9, .mv (.tmp 20), none⟩]))))))) (.region [⟨some 14, .mv (.tmp 8), none⟩, ⟨some 15, .bin .add (.tmp 14)
    (.const (.int .i64 1)), none⟩, ⟨some 8, .mv (.tmp 15), none⟩])))))) (.seq (.region [⟨some 31, .mv (.tmp 7), none⟩, ⟨some 6, .mv (.tmp 31), none⟩]) .ret))))
theorem low61 : lowF Tryz.prog [3, 30] Tryz.f61 = some (32, lc61.strip, [.tmp 6]) := by kernel_rfl
theorem fn61 : FnOk Tryz.prog 61 32 lc61 [.tmp 6] := ⟨Tryz.call61, [3, 30], _, Tryz.func61, low61⟩
/-- moonpool/sonar.best -/
def lc62 : LCode :=
  (.seq (.region [⟨some 4, .mv (.const (.slice none 0 0)), none⟩, ⟨some 5, .mv (.const (.int .i64 0)), none⟩, ⟨some 6, .mv (.const (.bool false)), none⟩]) (.seq (.region [⟨some 7,
    .mv (.const (.slice none 0 0)), none⟩]) (.seq (.region [⟨some 8, .mv (.const (.int .i64 0)), none⟩, ⟨some 9, .mv (.const (.bool false)), none⟩]) (.seq (.seq (.region [⟨some 15,
    .mv (.tmp 0), none⟩, ⟨some 16, .bin .shl (.const (.int .u64 1)) (.tmp 15), none⟩, ⟨some 17, .mv (.const (.int .u64 0)), none⟩]) (.block 0 (.loop (.seq (.region [⟨some 18, .bin
    .lss (.tmp 17) (.tmp 16), none⟩]) (.seq (.cond (.tmp 18) .skip (.exit 0)) (.seq (.block 1 (.seq (.region [⟨some 19, .mv (.tmp 17), none⟩, ⟨some 10, .mv (.tmp 19), none⟩]) (.seq
    (.region [⟨some 11, .mv (.const (.slice none 0 0)), none⟩]) (.seq (.seq (.region [⟨some 20, .mv (.tmp 0), none⟩, ⟨some 21, .mv (.const (.int .i64 0)), none⟩]) (.block 2 (.loop
    (.seq (.region [⟨some 22, .bin .lss (.tmp 21) (.tmp 20), none⟩]) (.seq (.cond (.tmp 22) .skip (.exit 2)) (.seq (.block 3 (.seq (.region [⟨some 23, .mv (.tmp 21), none⟩, ⟨some
    12, .mv (.tmp 23), none⟩]) (.seq (.region [⟨some 24, .mv (.tmp 10), none⟩, ⟨some 25, .mv (.tmp 12), none⟩, ⟨some 26, .bin .shr (.tmp 24) (.tmp 25), none⟩, ⟨some 27, .bin .and
    (.tmp 26) (.const (.int .u64 1)), none⟩, ⟨some 28, .bin .eql (.tmp 27) (.const (.int .u64 1)), none⟩]) (.cond (.tmp 28) (.region [⟨some 29, .mv (.tmp 11), none⟩, ⟨some 30, .mv
    (.tmp 12), none⟩, ⟨some 31, .lit false 3 1 [(.tmp 30)], none⟩, ⟨some 32, .append true 3 1 8 (.tmp 29) (.tmp 31), none⟩, ⟨some 11, .mv (.tmp 32), none⟩]) .skip)))) (.region
    [⟨some 33, .bin .add (.tmp 21) (.const (.int .i64 1)), none⟩, ⟨some 21, .mv (.tmp 33), none⟩]))))))) (.seq (.region [⟨some 35, .mv (.tmp 1), none⟩, ⟨some 36, .mv (.tmp 11),
    none⟩, ⟨some 37, .call (.tmp 35) [(.tmp 36)], none⟩, ⟨some 34, .mv (.tmp 37), none⟩, ⟨some 38, .ext (.tmp 34) 0, none⟩, ⟨some 39, .ext (.tmp 34) 1, none⟩, ⟨some 13, .mv (.tmp
    38), none⟩, ⟨some 14, .mv (.tmp 39), none⟩]) (.seq (.region [⟨some 40, .mv (.tmp 14), none⟩, ⟨some 41, .mv (.tmp 40), none⟩, ⟨some 42, .mv (.tmp 9), some (41, true)⟩, ⟨some 43,
    .un .not (.tmp 42), some (41, true)⟩, ⟨some 44, .mv (.tmp 43), some (41, true)⟩, ⟨some 45, .mv (.tmp 13), some (44, false)⟩, ⟨some 46, .mv (.tmp 8), some (44, false)⟩, ⟨some 47,
    .call (.func 97) [(.tmp 45), (.tmp 46)], some (44, false)⟩, ⟨some 48, .mv (.tmp 11), some (44, false)⟩, ⟨some 49, .len (.tmp 48), some (44, false)⟩, ⟨some 50, .mv (.tmp 7), some
    (44, false)⟩, ⟨some 51, .len (.tmp 50), some (44, false)⟩, ⟨some 52, .call (.func 97) [(.tmp 49), (.tmp 51)], some (44, false)⟩, ⟨some 53, .mv (.tmp 11), some (44, false)⟩,
    ⟨some 54, .mv (.tmp 7), some (44, false)⟩, ⟨some 55, .call (.func 98) [(.tmp 53), (.tmp 54)], some (44, false)⟩, ⟨some 56, .lit false 3 1 [(.tmp 47), (.tmp 52), (.tmp 55)], some
    (44, false)⟩, ⟨some 57, .call (.func 96) [(.tmp 56)], some (44, false)⟩, ⟨some 58, .bin .lss (.tmp 57) (.const (.int .i64 0)), some (44, false)⟩, ⟨some 59, .pick (.tmp 44)
    (.const (.bool true)) (.tmp 58), some (41, true)⟩, ⟨some 60, .pick (.tmp 41) (.tmp 59) (.const (.bool false)), none⟩]) (.cond (.tmp 60) (.region [⟨some 61, .mv (.tmp 11), none⟩,
    ⟨some 62, .mv (.tmp 13), none⟩, ⟨some 7, .mv (.tmp 61), none⟩, ⟨some 8, .mv (.tmp 62), none⟩, ⟨some 9, .mv (.const (.bool true)), none⟩]) .skip))))))) (.region [⟨some 63, .bin
    .add (.tmp 17) (.const (.int .u64 1)), none⟩, ⟨some 17, .mv (.tmp 63), none⟩]))))))) (.seq (.region [⟨some 64, .mv (.tmp 7), none⟩, ⟨some 65, .mv (.tmp 8), none⟩, ⟨some 66, .mv
    (.tmp 9), none⟩, ⟨some 4, .mv (.tmp 64), none⟩, ⟨some 5, .mv (.tmp 65), none⟩, ⟨some 6, .mv (.tmp 66), none⟩]) .ret)))))
theorem low62 : lowF Tryz.prog [32] Tryz.f62 = some (67, lc62.strip, [.tmp 4, .tmp 5, .tmp 6]) := by kernel_rfl
theorem fn62 : FnOk Tryz.prog 62 67 lc62 [.tmp 4, .tmp 5, .tmp 6] := ⟨Tryz.call62, [32], _, Tryz.func62, low62⟩
/-- moonpool/sonar.OddRays$1 -/
def lc63 : LCode :=
  (.seq (.region [⟨some 3, .mv (.const (.int .i64 0)), none⟩, ⟨some 4, .mv (.const (.bool false)), none⟩]) (.seq (.region [⟨some 5, .mv (.tmp 0), none⟩, ⟨some 6, .len (.tmp 5),
    none⟩, ⟨some 7, .load true 3 (.tmp 1), none⟩, ⟨some 8, .mv (.tmp 0), none⟩, ⟨some 9, .call (.func 65) [(.tmp 7), (.tmp 8)], none⟩, ⟨some 10, .call (.func 64) [(.tmp 9), (.const
    (.int .i64 3))], none⟩, ⟨some 11, .un .not (.tmp 10), none⟩, ⟨some 3, .mv (.tmp 6), none⟩, ⟨some 4, .mv (.tmp 11), none⟩]) .ret))
theorem low63 : lowF Tryz.prog [] Tryz.f63 = some (12, lc63.strip, [.tmp 3, .tmp 4]) := by kernel_rfl
theorem fn63 : FnOk Tryz.prog 63 12 lc63 [.tmp 3, .tmp 4] := ⟨Tryz.call63, [], _, Tryz.func63, low63⟩
/-- slices.Contains[[]int,int] -/
def lc64 : LCode :=
  (.seq (.region [⟨some 4, .mv (.const (.bool false)), none⟩]) (.seq (.region [⟨some 5, .mv (.tmp 0), none⟩, ⟨some 6, .mv (.tmp 1), none⟩, ⟨some 7, .call (.func 99) [(.tmp 5), (.tmp
    6)], none⟩, ⟨some 8, .bin .geq (.tmp 7) (.const (.int .i64 0)), none⟩, ⟨some 4, .mv (.tmp 8), none⟩]) .ret))
theorem low64 : lowF Tryz.prog [] Tryz.f64 = some (9, lc64.strip, [.tmp 4]) := by kernel_rfl
theorem fn64 : FnOk Tryz.prog 64 9 lc64 [.tmp 4] := ⟨Tryz.call64, [], _, Tryz.func64, low64⟩
def ra65 : LCode :=
  (.region [⟨some 8, .alloc [(.int .i64 0), (.int .i64 0)], none⟩, ⟨none, .store 2 (.tmp 8) (.tmp 30), none⟩])
def rb65 : LCode :=
  (.block 3 (.regionD [⟨some 31, .load false 1 (.tmp 5), none⟩, ⟨some 32, .fld 0 (.tmp 8), none⟩, ⟨some 33, .load false 1 (.tmp 32), none⟩, ⟨some 34, .idx 1 (.tmp 31) (.tmp 33),
    none⟩, ⟨some 35, .load false 1 (.tmp 34), none⟩, ⟨some 36, .fld 1 (.tmp 8), none⟩, ⟨some 37, .load false 1 (.tmp 36), none⟩, ⟨some 38, .bin .or (.tmp 35) (.tmp 37), none⟩, ⟨some
    39, .idx 1 (.tmp 31) (.tmp 33), none⟩, ⟨none, .store 1 (.tmp 39) (.tmp 38), none⟩] [0, 0, 2, 7, 15, 0, 32, 127, 255, 511] [0, 1, 2, 3, 4, 5, 6, 7, 8, 9]))
/-- moonpool/sonar.states -/
def lc65 : LCode :=
  (.seq (.region [⟨some 2, .boxS (.tmp 0), none⟩, ⟨some 4, .mv (.const (.slice none 0 0)), none⟩]) (.seq (.region [⟨some 9, .fld 0 (.tmp 2), none⟩, ⟨some 10, .load false 1 (.tmp 9),
    none⟩, ⟨some 11, .fld 1 (.tmp 2), none⟩, ⟨some 12, .load false 1 (.tmp 11), none⟩, ⟨some 13, .bin .mul (.tmp 10) (.tmp 12), none⟩, ⟨some 14, .make true 3 1 8 [(.int .i64 0)]
    (.tmp 13), none⟩, ⟨some 5, .alloc [(.slice none 0 0)], none⟩, ⟨none, .store 1 (.tmp 5) (.tmp 14), none⟩]) (.seq (.seq (.region [⟨some 15, .fld 2 (.tmp 2), none⟩, ⟨some 16, .load
    false 1 (.tmp 15), none⟩, ⟨some 17, .len (.tmp 16), none⟩, ⟨some 18, .mv (.const (.int .i64 0)), none⟩]) (.block 0 (.loop (.seq (.region [⟨some 19, .bin .lss (.tmp 18) (.tmp
    17), none⟩]) (.seq (.cond (.tmp 19) .skip (.exit 0)) (.seq (.block 1 (.seq (.region [⟨some 20, .mv (.tmp 18), none⟩, ⟨some 21, .idx 5 (.tmp 16) (.tmp 18), none⟩, ⟨some 22, .load
    true 5 (.tmp 21), none⟩, ⟨some 7, .alloc [(.int .i64 0), (.int .i64 0), (.int .i64 0), (.int .i64 0), (.bool false)], none⟩, ⟨some 6, .mv (.tmp 20), none⟩, ⟨none, .store 5 (.tmp
    7) (.tmp 22), none⟩]) (.seq (.seq (.region [⟨some 23, .mv (.tmp 1), none⟩, ⟨some 24, .mv (.tmp 6), none⟩, ⟨some 25, .call (.func 64) [(.tmp 23), (.tmp 24)], none⟩]) (.cond (.tmp
    25) (.exit 1) .skip)) (.seq (.region [⟨some 26, .load true 5 (.tmp 7), none⟩, ⟨some 27, .fld 0 (.tmp 2), none⟩, ⟨some 28, .load false 1 (.tmp 27), none⟩, ⟨some 29, .call (.func
    100) [(.tmp 26), (.tmp 28)], none⟩]) (.block 2 (.rangeFunc (.tmp 29) [30] ra65 rb65)))))) (.region [⟨some 40, .bin .add (.tmp 18) (.const (.int .i64 1)), none⟩, ⟨some 18, .mv
    (.tmp 40), none⟩]))))))) (.seq (.region [⟨some 41, .load false 1 (.tmp 5), none⟩, ⟨some 4, .mv (.tmp 41), none⟩]) .ret))))
theorem low65 : lowF Tryz.prog [2, 14] Tryz.f65 = some (42, lc65.strip, [.tmp 4]) := by kernel_rfl
theorem fn65 : FnOk Tryz.prog 65 42 lc65 [.tmp 4] := ⟨Tryz.call65, [2, 14], _, Tryz.func65, low65⟩
/-- moonpool/sonar.BoundOf -/
def lc66 : LCode :=
  (.seq (.region [⟨some 1, .boxS (.tmp 0), none⟩, ⟨some 2, .mv (.const (.slice none 0 0)), none⟩, ⟨some 3, .mv (.const (.int .i64 0)), none⟩, ⟨some 4, .mv (.const (.int .i64 0)),
    none⟩]) (.seq (.seq (.region [⟨some 9, .load false 1 (.tmp 1), none⟩, ⟨some 10, .call (.func 47) [(.tmp 9)], none⟩, ⟨some 5, .mv (.tmp 10), none⟩]) (.seq (.region [⟨some 11, .mv
    (.tmp 5), none⟩, ⟨some 12, .bin .neq (.tmp 11) (.const (.int .i64 0)), none⟩]) (.cond (.tmp 12) (.seq (.region [⟨some 13, .mv (.tmp 5), none⟩, ⟨some 2, .mv (.const (.slice none
    0 0)), none⟩, ⟨some 3, .mv (.const (.int .i64 0)), none⟩, ⟨some 4, .mv (.tmp 13), none⟩]) .ret) .skip))) (.seq (.region [⟨some 15, .load false 1 (.tmp 1), none⟩, ⟨some 16, .len
    (.tmp 15), none⟩, ⟨some 17, .mkfn 101 [(.tmp 1)], none⟩, ⟨some 18, .call (.func 62) [(.tmp 16), (.tmp 17)], none⟩, ⟨some 14, .mv (.tmp 18), none⟩, ⟨some 19, .ext (.tmp 14) 0,
    none⟩, ⟨some 20, .ext (.tmp 14) 1, none⟩, ⟨some 21, .ext (.tmp 14) 2, none⟩, ⟨some 6, .mv (.tmp 19), none⟩, ⟨some 7, .mv (.tmp 20), none⟩, ⟨some 8, .mv (.tmp 21), none⟩]) (.seq
    (.region [⟨some 22, .mv (.tmp 6), none⟩, ⟨some 23, .mv (.tmp 7), none⟩, ⟨some 24, .un .neg (.tmp 23), none⟩, ⟨some 2, .mv (.tmp 22), none⟩, ⟨some 3, .mv (.tmp 24), none⟩, ⟨some
    4, .mv (.const (.int .i64 0)), none⟩]) .ret))))
theorem low66 : lowF Tryz.prog [1] Tryz.f66 = some (25, lc66.strip, [.tmp 2, .tmp 3, .tmp 4]) := by kernel_rfl
theorem fn66 : FnOk Tryz.prog 66 25 lc66 [.tmp 2, .tmp 3, .tmp 4] := ⟨Tryz.call66, [1], _, Tryz.func66, low66⟩
/-- moonpool/sonar.FirstTurns -/
def lc67 : LCode :=
  (.seq (.region [⟨some 4, .alloc [(.int .i64 0), (.slice none 0 0)], none⟩, ⟨some 5, .mv (.const (.int .i64 0)), none⟩]) (.seq (.seq (.region [⟨some 8, .mv (.tmp 0), none⟩, ⟨some
    9, .call (.func 47) [(.tmp 8)], none⟩, ⟨some 10, .mv (.tmp 1), none⟩, ⟨some 11, .call (.func 104) [(.tmp 10)], none⟩, ⟨some 12, .lit false 33 1 [(.tmp 9), (.tmp 11)], none⟩,
    ⟨some 13, .call (.func 55) [(.tmp 12)], none⟩, ⟨some 6, .mv (.tmp 13), none⟩]) (.seq (.region [⟨some 14, .mv (.tmp 6), none⟩, ⟨some 15, .bin .neq (.tmp 14) (.const (.int .i64
    0)), none⟩]) (.cond (.tmp 15) (.seq (.region [⟨some 16, .build [(.int .i64 0), (.slice none 0 0)] [], none⟩, ⟨some 17, .mv (.tmp 6), none⟩, ⟨none, .store 2 (.tmp 4) (.tmp 16),
    none⟩, ⟨some 5, .mv (.tmp 17), none⟩]) .ret) .skip))) (.seq (.region [⟨some 18, .mv (.tmp 0), none⟩, ⟨some 19, .mv (.tmp 1), none⟩, ⟨some 20, .call (.func 105) [(.tmp 18),
    (.const (.slice none 0 0)), (.tmp 19)], none⟩, ⟨some 7, .mv (.tmp 20), none⟩]) (.seq (.seq (.region [⟨some 21, .mv (.tmp 7), none⟩, ⟨some 22, .isnil false (.tmp 21), none⟩])
    (.cond (.tmp 22) (.seq (.region [⟨some 23, .build [(.int .i64 0), (.slice none 0 0)] [], none⟩, ⟨none, .store 2 (.tmp 4) (.tmp 23), none⟩, ⟨some 5, .mv (.const (.int .i64 12)),
    none⟩]) .ret) .skip)) (.seq (.region [⟨some 24, .mv (.tmp 1), none⟩, ⟨some 25, .mv (.tmp 7), none⟩, ⟨some 26, .build [(.int .i64 0), (.slice none 0 0)] [(0, 1, (.tmp 24)), (1,
    1, (.tmp 25))], none⟩, ⟨none, .store 2 (.tmp 4) (.tmp 26), none⟩, ⟨some 5, .mv (.const (.int .i64 0)), none⟩]) .ret)))))
theorem low67 : lowF Tryz.prog [] Tryz.f67 = some (27, lc67.strip, [.cell 4 true 2, .tmp 5]) := by kernel_rfl
theorem fn67 : FnOk Tryz.prog 67 27 lc67 [.cell 4 true 2, .tmp 5] := ⟨Tryz.call67, [], _, Tryz.func67, low67⟩
/-- moonpool/sonar.within -/
def lc69 : LCode :=
  (.seq (.region [⟨some 6, .mv (.const (.bool false)), none⟩]) (.seq (.region [⟨some 7, .mv (.tmp 1), none⟩, ⟨some 8, .mv (.tmp 0), none⟩, ⟨some 9, .bin .leq (.tmp 7) (.tmp 8),
    none⟩, ⟨some 10, .mv (.tmp 9), none⟩, ⟨some 11, .mv (.tmp 0), some (10, true)⟩, ⟨some 12, .mv (.tmp 2), some (10, true)⟩, ⟨some 13, .bin .leq (.tmp 11) (.tmp 12), some (10,
    true)⟩, ⟨some 14, .pick (.tmp 10) (.tmp 13) (.const (.bool false)), none⟩, ⟨some 6, .mv (.tmp 14), none⟩]) .ret))
theorem low69 : lowF Tryz.prog [] Tryz.f69 = some (15, lc69.strip, [.tmp 6]) := by kernel_rfl
theorem fn69 : FnOk Tryz.prog 69 15 lc69 [.tmp 6] := ⟨Tryz.call69, [], _, Tryz.func69, low69⟩
/-- moonpool/moonpoollaw04.Ray -/
def lc80 : LCode :=
  (.seq (.region [⟨some 10, .alloc [(.int .i64 0), (.int .i64 0), (.int .i64 0), (.int .i64 0), (.bool false)], none⟩]) (.seq (.region [⟨some 11, .mv (.tmp 0), none⟩, ⟨some 12, .mv
    (.tmp 1), none⟩, ⟨some 13, .build [(.int .i64 0), (.int .i64 0)] [(0, 1, (.tmp 11)), (1, 1, (.tmp 12))], none⟩, ⟨some 14, .mv (.tmp 2), none⟩, ⟨some 15, .mv (.tmp 3), none⟩,
    ⟨some 16, .build [(.int .i64 0), (.int .i64 0)] [(0, 1, (.tmp 14)), (1, 1, (.tmp 15))], none⟩, ⟨some 17, .mv (.tmp 4), none⟩, ⟨some 18, .build [(.int .i64 0), (.int .i64 0),
    (.int .i64 0), (.int .i64 0), (.bool false)] [(0, 2, (.tmp 13)), (2, 2, (.tmp 16)), (4, 1, (.tmp 17))], none⟩, ⟨none, .store 5 (.tmp 10) (.tmp 18), none⟩]) .ret))
theorem low80 : lowF Tryz.prog [] Tryz.f80 = some (19, lc80.strip, [.cell 10 true 5]) := by kernel_rfl
theorem fn80 : FnOk Tryz.prog 80 19 lc80 [.cell 10 true 5] := ⟨Tryz.call80, [], _, Tryz.func80, low80⟩
/-- moonpool/sonar.CheckDevices -/
def lc89 : LCode :=
  (.seq (.region [⟨some 2, .mv (.const (.int .i64 0)), none⟩, ⟨some 3, .mv (.const (.int .i64 0)), none⟩]) (.seq (.seq (.region [⟨some 5, .mv (.tmp 0), none⟩, ⟨some 6, .len (.tmp
    5), none⟩, ⟨some 7, .call (.func 127) [(.tmp 6), (.const (.int .i64 5))], none⟩, ⟨some 4, .mv (.tmp 7), none⟩]) (.seq (.region [⟨some 8, .mv (.tmp 4), none⟩, ⟨some 9, .bin .neq
    (.tmp 8) (.const (.int .i64 0)), none⟩]) (.cond (.tmp 9) (.seq (.region [⟨some 10, .mv (.tmp 4), none⟩, ⟨some 2, .mv (.const (.int .i64 0)), none⟩, ⟨some 3, .mv (.tmp 10),
    none⟩]) .ret) .skip))) (.seq (.region [⟨some 11, .mv (.tmp 0), none⟩, ⟨some 12, .call (.func 128) [(.tmp 11), (.func 129)], none⟩, ⟨some 13, .ext (.tmp 12) 0, none⟩, ⟨some 14,
    .ext (.tmp 12) 1, none⟩, ⟨some 2, .mv (.tmp 13), none⟩, ⟨some 3, .mv (.tmp 14), none⟩]) .ret)))
theorem low89 : lowF Tryz.prog [] Tryz.f89 = some (15, lc89.strip, [.tmp 2, .tmp 3]) := by kernel_rfl
theorem fn89 : FnOk Tryz.prog 89 15 lc89 [.tmp 2, .tmp 3] := ⟨Tryz.call89, [], _, Tryz.func89, low89⟩
/-- internal/stringslite.Cut -/
def lc90 : LCode :=
  (.seq (.region [⟨some 4, .mv (.const (.string ⟨#[]⟩)), none⟩, ⟨some 5, .mv (.const (.string ⟨#[]⟩)), none⟩, ⟨some 6, .mv (.const (.bool false)), none⟩]) (.seq (.seq (.region
    [⟨some 8, .mv (.tmp 0), none⟩, ⟨some 9, .mv (.tmp 1), none⟩, ⟨some 10, .call (.func 130) [(.tmp 8), (.tmp 9)], none⟩, ⟨some 7, .mv (.tmp 10), none⟩]) (.seq (.region [⟨some 11,
    .mv (.tmp 7), none⟩, ⟨some 12, .bin .geq (.tmp 11) (.const (.int .i64 0)), none⟩]) (.cond (.tmp 12) (.seq (.regionD [⟨some 13, .mv (.tmp 0), none⟩, ⟨some 14, .mv (.tmp 7),
    none⟩, ⟨some 15, .slcS (.tmp 13) none (some (.tmp 14)), none⟩, ⟨some 16, .mv (.tmp 0), none⟩, ⟨some 17, .mv (.tmp 7), none⟩, ⟨some 18, .mv (.tmp 1), none⟩, ⟨some 19, .lenS (.tmp
    18), none⟩, ⟨some 20, .bin .add (.tmp 17) (.tmp 19), none⟩, ⟨some 21, .slcS (.tmp 16) (some (.tmp 20)) none, none⟩, ⟨some 4, .mv (.tmp 15), none⟩, ⟨some 5, .mv (.tmp 21), none⟩,
    ⟨some 6, .mv (.const (.bool true)), none⟩] [0, 0, 3, 0, 0, 0, 32, 112, 248, 7, 1023, 2047] [0, 1, 2, 3, 4, 5, 6, 7, 8, 9, 10, 11]) .ret) .skip))) (.seq (.region [⟨some 22, .mv
    (.tmp 0), none⟩, ⟨some 4, .mv (.tmp 22), none⟩, ⟨some 5, .mv (.const (.string ⟨#[]⟩)), none⟩, ⟨some 6, .mv (.const (.bool false)), none⟩]) .ret)))
theorem low90 : lowF Tryz.prog [] Tryz.f90 = some (23, lc90.strip, [.tmp 4, .tmp 5, .tmp 6]) := by kernel_rfl
theorem fn90 : FnOk Tryz.prog 90 23 lc90 [.tmp 4, .tmp 5, .tmp 6] := ⟨Tryz.call90, [], _, Tryz.func90, low90⟩
/-- moonpool/sonar.CheckScene -/
def lc91 : LCode :=
  (.seq (.region [⟨some 1, .boxS (.tmp 0), none⟩, ⟨some 2, .mv (.const (.int .i64 0)), none⟩, ⟨some 3, .mv (.const (.int .i64 0)), none⟩]) (.seq (.seq (.region [⟨some 5, .fld 0
    (.tmp 1), none⟩, ⟨some 6, .load false 1 (.tmp 5), none⟩, ⟨some 7, .fld 1 (.tmp 1), none⟩, ⟨some 8, .load false 1 (.tmp 7), none⟩, ⟨some 9, .fld 2 (.tmp 1), none⟩, ⟨some 10,
    .load false 1 (.tmp 9), none⟩, ⟨some 11, .len (.tmp 10), none⟩, ⟨some 12, .call (.func 110) [(.tmp 6), (.tmp 8), (.tmp 11)], none⟩, ⟨some 4, .mv (.tmp 12), none⟩]) (.seq
    (.region [⟨some 13, .mv (.tmp 4), none⟩, ⟨some 14, .bin .neq (.tmp 13) (.const (.int .i64 0)), none⟩]) (.cond (.tmp 14) (.seq (.region [⟨some 15, .mv (.tmp 4), none⟩, ⟨some 2,
    .mv (.const (.int .i64 0)), none⟩, ⟨some 3, .mv (.tmp 15), none⟩]) .ret) .skip))) (.seq (.region [⟨some 16, .fld 2 (.tmp 1), none⟩, ⟨some 17, .load false 1 (.tmp 16), none⟩,
    ⟨some 18, .mkfn 132 [(.tmp 1)], none⟩, ⟨some 19, .call (.func 131) [(.tmp 17), (.tmp 18)], none⟩, ⟨some 20, .ext (.tmp 19) 0, none⟩, ⟨some 21, .ext (.tmp 19) 1, none⟩, ⟨some 2,
    .mv (.tmp 20), none⟩, ⟨some 3, .mv (.tmp 21), none⟩]) .ret)))
theorem low91 : lowF Tryz.prog [1] Tryz.f91 = some (22, lc91.strip, [.tmp 2, .tmp 3]) := by kernel_rfl
theorem fn91 : FnOk Tryz.prog 91 22 lc91 [.tmp 2, .tmp 3] := ⟨Tryz.call91, [1], _, Tryz.func91, low91⟩
/-- moonpool/moonpoolref04.gridErr -/
def lc94 : LCode :=
  (.seq (.region [⟨some 4, .mv (.const (.int .i64 0)), none⟩]) (.seq (.seq (.region [⟨some 5, .mv (.tmp 0), none⟩, ⟨some 6, .call (.func 23) [(.tmp 5), (.const (.int .i64 1)),
    (.const (.int .i64 12))], none⟩, ⟨some 7, .un .not (.tmp 6), none⟩, ⟨some 8, .mv (.tmp 7), none⟩, ⟨some 9, .mv (.tmp 1), some (8, false)⟩, ⟨some 10, .call (.func 23) [(.tmp 9),
    (.const (.int .i64 1)), (.const (.int .i64 12))], some (8, false)⟩, ⟨some 11, .un .not (.tmp 10), some (8, false)⟩, ⟨some 12, .pick (.tmp 8) (.const (.bool true)) (.tmp 11),
    none⟩]) (.cond (.tmp 12) (.seq (.region [⟨some 4, .mv (.const (.int .i64 2)), none⟩]) .ret) .skip)) (.seq (.region [⟨some 4, .mv (.const (.int .i64 0)), none⟩]) .ret)))
theorem low94 : lowF Tryz.prog [] Tryz.f94 = some (13, lc94.strip, [.tmp 4]) := by kernel_rfl
theorem fn94 : FnOk Tryz.prog 94 13 lc94 [.tmp 4] := ⟨Tryz.call94, [], _, Tryz.func94, low94⟩
/-- slices.Grow[[]moonpool/api.SonarRay,moonpool/api.SonarRay] -/
def lc95 : LCode :=
  (.seq (.region [⟨some 4, .mv (.const (.slice none 0 0)), none⟩]) (.seq (.seq (.region [⟨some 5, .mv (.tmp 1), none⟩, ⟨some 6, .bin .lss (.tmp 5) (.const (.int .i64 0)), none⟩])
    (.cond (.tmp 6) (.region [⟨some 7, .bad, none⟩, ⟨none, .bad, none⟩]) .skip)) (.seq (.seq (.region [⟨some 8, .mv (.tmp 1), none⟩, ⟨some 9, .mv (.tmp 0), none⟩, ⟨some 10, .cap
    (.tmp 9), none⟩, ⟨some 11, .mv (.tmp 0), none⟩, ⟨some 12, .len (.tmp 11), none⟩, ⟨some 13, .bin .sub (.tmp 10) (.tmp 12), none⟩, ⟨some 14, .bin .sub (.tmp 8) (.tmp 13), none⟩,
    ⟨some 1, .mv (.tmp 14), none⟩]) (.seq (.region [⟨some 15, .mv (.tmp 1), none⟩, ⟨some 16, .bin .gtr (.tmp 15) (.const (.int .i64 0)), none⟩]) (.cond (.tmp 16) (.region [⟨some 17,
    .mv (.tmp 0), none⟩, ⟨some 18, .mv (.tmp 0), none⟩, ⟨some 19, .cap (.tmp 18), none⟩, ⟨some 20, .slc 5 (.tmp 17) none (some (.tmp 19)), none⟩, ⟨some 21, .mv (.tmp 1), none⟩,
    ⟨some 22, .appendN 51 5 40 [(.int .i64 0), (.int .i64 0), (.int .i64 0), (.int .i64 0), (.bool false)] (.tmp 20) (.tmp 21), none⟩, ⟨some 23, .mv (.tmp 0), none⟩, ⟨some 24, .len
    (.tmp 23), none⟩, ⟨some 25, .slc 5 (.tmp 22) none (some (.tmp 24)), none⟩, ⟨some 0, .mv (.tmp 25), none⟩]) .skip))) (.seq (.region [⟨some 26, .mv (.tmp 0), none⟩, ⟨some 4, .mv
    (.tmp 26), none⟩]) .ret))))
theorem low95 : lowF Tryz.prog [] Tryz.f95 = some (27, lc95.strip, [.tmp 4]) := by kernel_rfl
theorem fn95 : FnOk Tryz.prog 95 27 lc95 [.tmp 4] := ⟨Tryz.call95, [], _, Tryz.func95, low95⟩
/-- cmp.Or[int] -/
def lc96 : LCode :=
  (.seq (.region [⟨some 2, .mv (.const (.int .i64 0)), none⟩]) (.seq (.region [⟨some 3, .mv (.const (.int .i64 0)), none⟩]) (.seq (.seq (.region [⟨some 6, .mv (.tmp 0), none⟩, ⟨some
    7, .len (.tmp 6), none⟩, ⟨some 8, .mv (.const (.int .i64 0)), none⟩]) (.block 0 (.loop (.seq (.region [⟨some 9, .bin .lss (.tmp 8) (.tmp 7), none⟩]) (.seq (.cond (.tmp 9) .skip
    (.exit 0)) (.seq (.block 1 (.seq (.region [⟨some 10, .idx 1 (.tmp 6) (.tmp 8), none⟩, ⟨some 11, .load false 1 (.tmp 10), none⟩, ⟨some 5, .mv (.tmp 11), none⟩]) (.seq (.region
    [⟨some 12, .mv (.tmp 5), none⟩, ⟨some 13, .mv (.tmp 3), none⟩, ⟨some 14, .bin .neq (.tmp 12) (.tmp 13), none⟩]) (.cond (.tmp 14) (.seq (.region [⟨some 15, .mv (.tmp 5), none⟩,
    ⟨some 2, .mv (.tmp 15), none⟩]) .ret) .skip)))) (.region [⟨some 16, .bin .add (.tmp 8) (.const (.int .i64 1)), none⟩, ⟨some 8, .mv (.tmp 16), none⟩]))))))) (.seq (.region [⟨some
    17, .mv (.tmp 3), none⟩, ⟨some 2, .mv (.tmp 17), none⟩]) .ret))))
theorem low96 : lowF Tryz.prog [] Tryz.f96 = some (18, lc96.strip, [.tmp 2]) := by kernel_rfl
theorem fn96 : FnOk Tryz.prog 96 18 lc96 [.tmp 2] := ⟨Tryz.call96, [], _, Tryz.func96, low96⟩
/-- cmp.Compare[int] -/
def lc97 : LCode :=
  (.seq (.region [⟨some 4, .mv (.const (.int .i64 0)), none⟩]) (.seq (.region [⟨some 7, .mv (.tmp 0), none⟩, ⟨some 8, .call (.func 134) [(.tmp 7)], none⟩, ⟨some 5, .mv (.tmp 8),
    none⟩]) (.seq (.region [⟨some 9, .mv (.tmp 1), none⟩, ⟨some 10, .call (.func 134) [(.tmp 9)], none⟩, ⟨some 6, .mv (.tmp 10), none⟩]) (.seq (.seq (.region [⟨some 11, .mv (.tmp
    5), none⟩]) (.cond (.tmp 11) (.seq (.seq (.region [⟨some 12, .mv (.tmp 6), none⟩]) (.cond (.tmp 12) (.seq (.region [⟨some 4, .mv (.const (.int .i64 0)), none⟩]) .ret) .skip))
    (.seq (.region [⟨some 4, .mv (.const (.int .i64 (-1))), none⟩]) .ret)) .skip)) (.seq (.seq (.region [⟨some 13, .mv (.tmp 6), none⟩]) (.cond (.tmp 13) (.seq (.region [⟨some 4,
    .mv (.const (.int .i64 1)), none⟩]) .ret) .skip)) (.seq (.seq (.region [⟨some 14, .mv (.tmp 0), none⟩, ⟨some 15, .mv (.tmp 1), none⟩, ⟨some 16, .bin .lss (.tmp 14) (.tmp 15),
    none⟩]) (.cond (.tmp 16) (.seq (.region [⟨some 4, .mv (.const (.int .i64 (-1))), none⟩]) .ret) .skip)) (.seq (.seq (.region [⟨some 17, .mv (.tmp 0), none⟩, ⟨some 18, .mv (.tmp
    1), none⟩, ⟨some 19, .bin .gtr (.tmp 17) (.tmp 18), none⟩]) (.cond (.tmp 19) (.seq (.region [⟨some 4, .mv (.const (.int .i64 1)), none⟩]) .ret) .skip)) (.seq (.region [⟨some 4,
    .mv (.const (.int .i64 0)), none⟩]) .ret))))))))
theorem low97 : lowF Tryz.prog [] Tryz.f97 = some (20, lc97.strip, [.tmp 4]) := by kernel_rfl
theorem fn97 : FnOk Tryz.prog 97 20 lc97 [.tmp 4] := ⟨Tryz.call97, [], _, Tryz.func97, low97⟩
/-- slices.Compare[[]int,int] -/
def lc98 : LCode :=
  (.seq (.region [⟨some 4, .mv (.const (.int .i64 0)), none⟩]) (.seq (.seq (.region [⟨some 9, .mv (.tmp 0), none⟩, ⟨some 10, .len (.tmp 9), none⟩, ⟨some 11, .mv (.const (.int .i64
    0)), none⟩]) (.block 0 (.loop (.seq (.region [⟨some 12, .bin .lss (.tmp 11) (.tmp 10), none⟩]) (.seq (.cond (.tmp 12) .skip (.exit 0)) (.seq (.block 1 (.seq (.region [⟨some 13,
    .mv (.tmp 11), none⟩, ⟨some 14, .idx 1 (.tmp 9) (.tmp 11), none⟩, ⟨some 15, .load false 1 (.tmp 14), none⟩, ⟨some 5, .mv (.tmp 13), none⟩, ⟨some 6, .mv (.tmp 15), none⟩]) (.seq
    (.seq (.region [⟨some 16, .mv (.tmp 5), none⟩, ⟨some 17, .mv (.tmp 1), none⟩, ⟨some 18, .len (.tmp 17), none⟩, ⟨some 19, .bin .geq (.tmp 16) (.tmp 18), none⟩]) (.cond (.tmp 19)
    (.seq (.region [⟨some 4, .mv (.const (.int .i64 1)), none⟩]) .ret) .skip)) (.seq (.region [⟨some 20, .mv (.tmp 1), none⟩, ⟨some 21, .mv (.tmp 5), none⟩, ⟨some 22, .idx 1 (.tmp
    20) (.tmp 21), none⟩, ⟨some 23, .load false 1 (.tmp 22), none⟩, ⟨some 7, .mv (.tmp 23), none⟩]) (.seq (.region [⟨some 24, .mv (.tmp 6), none⟩, ⟨some 25, .mv (.tmp 7), none⟩,
    ⟨some 26, .call (.func 97) [(.tmp 24), (.tmp 25)], none⟩, ⟨some 8, .mv (.tmp 26), none⟩]) (.seq (.region [⟨some 27, .mv (.tmp 8), none⟩, ⟨some 28, .bin .neq (.tmp 27) (.const
    (.int .i64 0)), none⟩]) (.cond (.tmp 28) (.seq (.region [⟨some 29, .mv (.tmp 8), none⟩, ⟨some 4, .mv (.tmp 29), none⟩]) .ret) .skip))))))) (.region [⟨some 30, .bin .add (.tmp
    11) (.const (.int .i64 1)), none⟩, ⟨some 11, .mv (.tmp 30), none⟩]))))))) (.seq (.seq (.region [⟨some 31, .mv (.tmp 0), none⟩, ⟨some 32, .len (.tmp 31), none⟩, ⟨some 33, .mv
    (.tmp 1), none⟩, ⟨some 34, .len (.tmp 33), none⟩, ⟨some 35, .bin .lss (.tmp 32) (.tmp 34), none⟩]) (.cond (.tmp 35) (.seq (.region [⟨some 4, .mv (.const (.int .i64 (-1))),
    none⟩]) .ret) .skip)) (.seq (.region [⟨some 4, .mv (.const (.int .i64 0)), none⟩]) .ret))))
theorem low98 : lowF Tryz.prog [] Tryz.f98 = some (36, lc98.strip, [.tmp 4]) := by kernel_rfl
theorem fn98 : FnOk Tryz.prog 98 36 lc98 [.tmp 4] := ⟨Tryz.call98, [], _, Tryz.func98, low98⟩
/-- slices.Index[[]int,int] -/
def lc99 : LCode :=
  (.seq (.region [⟨some 4, .mv (.const (.int .i64 0)), none⟩]) (.seq (.seq (.region [⟨some 6, .mv (.tmp 0), none⟩, ⟨some 7, .len (.tmp 6), none⟩, ⟨some 8, .mv (.const (.int .i64
    0)), none⟩]) (.block 0 (.loop (.seq (.region [⟨some 9, .bin .lss (.tmp 8) (.tmp 7), none⟩]) (.seq (.cond (.tmp 9) .skip (.exit 0)) (.seq (.block 1 (.seq (.region [⟨some 10, .mv
    (.tmp 8), none⟩, ⟨some 5, .mv (.tmp 10), none⟩]) (.seq (.region [⟨some 11, .mv (.tmp 1), none⟩, ⟨some 12, .mv (.tmp 0), none⟩, ⟨some 13, .mv (.tmp 5), none⟩, ⟨some 14, .idx 1
    (.tmp 12) (.tmp 13), none⟩, ⟨some 15, .load false 1 (.tmp 14), none⟩, ⟨some 16, .bin .eql (.tmp 11) (.tmp 15), none⟩]) (.cond (.tmp 16) (.seq (.region [⟨some 17, .mv (.tmp 5),
    none⟩, ⟨some 4, .mv (.tmp 17), none⟩]) .ret) .skip)))) (.region [⟨some 18, .bin .add (.tmp 8) (.const (.int .i64 1)), none⟩, ⟨some 8, .mv (.tmp 18), none⟩]))))))) (.seq (.region
    [⟨some 4, .mv (.const (.int .i64 (-1))), none⟩]) .ret)))
theorem low99 : lowF Tryz.prog [] Tryz.f99 = some (19, lc99.strip, [.tmp 4]) := by kernel_rfl
theorem fn99 : FnOk Tryz.prog 99 19 lc99 [.tmp 4] := ⟨Tryz.call99, [], _, Tryz.func99, low99⟩
end Go.Pw

set_option linter.unusedVariables false
set_option maxHeartbeats 2000000
set_option maxRecDepth 100000
namespace Go.Pw
open Go Go.Proofs
/-- strings.splitSeq -/
def lc87 : LCode :=
  (.seq (.region [⟨some 3, .box (.tmp 0), none⟩, ⟨some 4, .box (.tmp 1), none⟩, ⟨some 5, .box (.tmp 2), none⟩, ⟨some 6, .mv (.const .nilFunc), none⟩]) (.seq (.region [⟨some 7, .mkfn
    122 [(.tmp 4), (.tmp 3), (.tmp 5)], none⟩, ⟨some 6, .mv (.tmp 7), none⟩]) .ret))
theorem low87 : lowF Tryz.prog [] Tryz.f87 = some (8, lc87.strip, [.tmp 6]) := by kernel_rfl
theorem fn87 : FnOk Tryz.prog 87 8 lc87 [.tmp 6] := ⟨Tryz.call87, [], _, Tryz.func87, low87⟩
/-- moonpool/sonar.BoundOf$1 -/
def lc101 : LCode :=
  (.seq (.region [⟨some 3, .mv (.const (.int .i64 0)), none⟩, ⟨some 4, .mv (.const (.bool false)), none⟩]) (.seq (.region [⟨some 5, .mv (.const (.int .i64 0)), none⟩]) (.seq (.seq
    (.region [⟨some 10, .mv (.tmp 0), none⟩, ⟨some 11, .len (.tmp 10), none⟩, ⟨some 12, .mv (.const (.int .i64 0)), none⟩]) (.block 0 (.loop (.seq (.region [⟨some 13, .bin .lss
    (.tmp 12) (.tmp 11), none⟩]) (.seq (.cond (.tmp 13) .skip (.exit 0)) (.seq (.block 1 (.seq (.region [⟨some 14, .mv (.tmp 12), none⟩, ⟨some 15, .idx 1 (.tmp 10) (.tmp 12), none⟩,
    ⟨some 16, .load false 1 (.tmp 15), none⟩, ⟨some 6, .mv (.tmp 14), none⟩, ⟨some 7, .mv (.tmp 16), none⟩]) (.seq (.seq (.region [⟨some 17, .mv (.tmp 0), none⟩, ⟨some 18, .mv (.tmp
    6), none⟩, ⟨some 19, .slc 1 (.tmp 17) none (some (.tmp 18)), none⟩, ⟨some 20, .len (.tmp 19), none⟩, ⟨some 21, .mv (.const (.int .i64 0)), none⟩]) (.block 2 (.loop (.seq
    (.region [⟨some 22, .bin .lss (.tmp 21) (.tmp 20), none⟩]) (.seq (.cond (.tmp 22) .skip (.exit 2)) (.seq (.block 3 (.seq (.region [⟨some 23, .idx 1 (.tmp 19) (.tmp 21), none⟩,
    ⟨some 24, .load false 1 (.tmp 23), none⟩, ⟨some 9, .mv (.tmp 24), none⟩]) (.seq (.regionD [⟨some 25, .load false 1 (.tmp 1), none⟩, ⟨some 26, .mv (.tmp 7), none⟩, ⟨some 27, .idx
    3 (.tmp 25) (.tmp 26), none⟩, ⟨some 28, .load true 3 (.tmp 27), none⟩, ⟨some 29, .load false 1 (.tmp 1), none⟩, ⟨some 30, .mv (.tmp 9), none⟩, ⟨some 31, .idx 3 (.tmp 29) (.tmp
    30), none⟩, ⟨some 32, .load true 3 (.tmp 31), none⟩, ⟨some 33, .call (.func 102) [(.tmp 28), (.tmp 32)], none⟩, ⟨some 34, .un .not (.tmp 33), none⟩] [0, 0, 3, 7, 0, 0, 48, 112,
    255, 511] [0, 1, 2, 3, 4, 5, 6, 7, 8, 9]) (.cond (.tmp 34) (.seq (.region [⟨some 3, .mv (.const (.int .i64 0)), none⟩, ⟨some 4, .mv (.const (.bool false)), none⟩]) .ret)
    .skip)))) (.region [⟨some 35, .bin .add (.tmp 21) (.const (.int .i64 1)), none⟩, ⟨some 21, .mv (.tmp 35), none⟩]))))))) (.region [⟨some 36, .mv (.tmp 5), none⟩, ⟨some 37, .load
    false 1 (.tmp 1), none⟩, ⟨some 38, .mv (.tmp 7), none⟩, ⟨some 39, .idx 3 (.tmp 37) (.tmp 38), none⟩, ⟨some 40, .load true 3 (.tmp 39), none⟩, ⟨some 41, .call (.func 103) [(.tmp
    40)], none⟩, ⟨some 42, .bin .sub (.tmp 36) (.tmp 41), none⟩, ⟨some 5, .mv (.tmp 42), none⟩])))) (.region [⟨some 43, .bin .add (.tmp 12) (.const (.int .i64 1)), none⟩, ⟨some 12,
    .mv (.tmp 43), none⟩]))))))) (.seq (.region [⟨some 44, .mv (.tmp 5), none⟩, ⟨some 3, .mv (.tmp 44), none⟩, ⟨some 4, .mv (.const (.bool true)), none⟩]) .ret))))
theorem low101 : lowF Tryz.prog [] Tryz.f101 = some (45, lc101.strip, [.tmp 3, .tmp 4]) := by kernel_rfl
theorem fn101 : FnOk Tryz.prog 101 45 lc101 [.tmp 3, .tmp 4] := ⟨Tryz.call101, [], _, Tryz.func101, low101⟩
/-- moonpool/sonar.disturb -/
def lc102 : LCode :=
  (.seq (.region [⟨some 2, .boxS (.tmp 0), none⟩, ⟨some 3, .boxS (.tmp 1), none⟩, ⟨some 4, .mv (.const (.bool false)), none⟩]) (.seq (.region [⟨some 5, .fld 0 (.tmp 2), none⟩, ⟨some
    6, .load false 1 (.tmp 5), none⟩, ⟨some 7, .fld 0 (.tmp 3), none⟩, ⟨some 8, .load false 1 (.tmp 7), none⟩, ⟨some 9, .bin .sub (.tmp 6) (.tmp 8), none⟩, ⟨some 10, .call (.func
    136) [(.tmp 9)], none⟩, ⟨some 11, .bin .leq (.tmp 10) (.const (.int .i64 1)), none⟩, ⟨some 4, .mv (.tmp 11), none⟩]) .ret))
theorem low102 : lowF Tryz.prog [2, 3] Tryz.f102 = some (12, lc102.strip, [.tmp 4]) := by kernel_rfl
theorem fn102 : FnOk Tryz.prog 102 12 lc102 [.tmp 4] := ⟨Tryz.call102, [2, 3], _, Tryz.func102, low102⟩
/-- moonpool/sonar.window -/
def lc103 : LCode :=
  (.seq (.region [⟨some 1, .boxS (.tmp 0), none⟩, ⟨some 2, .mv (.const (.int .i64 0)), none⟩]) (.seq (.region [⟨some 3, .fld 1 (.tmp 1), none⟩, ⟨some 4, .load false 1 (.tmp 3),
    none⟩, ⟨some 5, .fld 2 (.tmp 1), none⟩, ⟨some 6, .load false 1 (.tmp 5), none⟩, ⟨some 7, .bin .add (.tmp 4) (.tmp 6), none⟩, ⟨some 2, .mv (.tmp 7), none⟩]) .ret))
theorem low103 : lowF Tryz.prog [1] Tryz.f103 = some (8, lc103.strip, [.tmp 2]) := by kernel_rfl
theorem fn103 : FnOk Tryz.prog 103 8 lc103 [.tmp 2] := ⟨Tryz.call103, [1], _, Tryz.func103, low103⟩
/-- moonpool/sonar.cycleErr -/
def lc104 : LCode :=
  (.seq (.region [⟨some 2, .mv (.const (.int .i64 0)), none⟩]) (.seq (.region [⟨some 3, .mv (.tmp 0), none⟩, ⟨some 4, .call (.func 69) [(.tmp 3), (.const (.int .i64 1)), (.const
    (.int .i64 40))], none⟩, ⟨some 5, .call (.func 56) [(.tmp 4), (.const (.int .i64 2))], none⟩, ⟨some 2, .mv (.tmp 5), none⟩]) .ret))
theorem low104 : lowF Tryz.prog [] Tryz.f104 = some (6, lc104.strip, [.tmp 2]) := by kernel_rfl
theorem fn104 : FnOk Tryz.prog 104 6 lc104 [.tmp 2] := ⟨Tryz.call104, [], _, Tryz.func104, low104⟩
/-- moonpool/sonar.placed -/
def lc105 : LCode :=
  (.seq (.region [⟨some 6, .mv (.const (.slice none 0 0)), none⟩]) (.scope (.seq (.region [⟨some 12, .mv (.tmp 1), none⟩, ⟨some 13, .len (.tmp 12), none⟩, ⟨some 7, .mv (.tmp 13),
    none⟩]) (.seq (.seq (.region [⟨some 14, .mv (.tmp 7), none⟩, ⟨some 15, .mv (.tmp 0), none⟩, ⟨some 16, .len (.tmp 15), none⟩, ⟨some 17, .bin .eql (.tmp 14) (.tmp 16), none⟩])
    (.cond (.tmp 17) (.seq (.region [⟨some 18, .mv (.tmp 1), none⟩, ⟨some 6, .mv (.tmp 18), none⟩]) .ret) .skip)) (.seq .label (.seq (.seq (.region [⟨some 19, .mv (.tmp 2), none⟩,
    ⟨some 20, .mv (.const (.int .i64 0)), none⟩]) (.block 0 (.loop (.seq (.region [⟨some 21, .bin .lss (.tmp 20) (.tmp 19), none⟩]) (.seq (.cond (.tmp 21) .skip (.exit 0)) (.seq
    (.block 1 (.seq (.region [⟨some 22, .mv (.tmp 20), none⟩, ⟨some 8, .mv (.tmp 22), none⟩]) (.seq (.region [⟨some 23, .mv (.tmp 1), none⟩, ⟨some 24, .call (.func 137) [(.tmp 23)],
    none⟩, ⟨some 25, .mv (.tmp 8), none⟩, ⟨some 26, .lit false 3 1 [(.tmp 25)], none⟩, ⟨some 27, .append false 3 1 8 (.tmp 24) (.tmp 26), none⟩, ⟨some 9, .mv (.tmp 27), none⟩])
    (.seq (.seq (.region [⟨some 28, .mv (.tmp 9), none⟩, ⟨some 29, .len (.tmp 28), none⟩, ⟨some 30, .mv (.const (.int .i64 0)), none⟩]) (.block 2 (.loop (.seq (.region [⟨some 31,
    .bin .lss (.tmp 30) (.tmp 29), none⟩]) (.seq (.cond (.tmp 31) .skip (.exit 2)) (.seq (.block 3 (.seq (.region [⟨some 32, .mv (.tmp 30), none⟩, ⟨some 10, .mv (.tmp 32), none⟩])
    (.seq (.region [⟨some 33, .mv (.tmp 0), none⟩, ⟨some 34, .mv (.tmp 9), none⟩, ⟨some 35, .mv (.tmp 10), none⟩, ⟨some 36, .mv (.tmp 7), none⟩, ⟨some 37, .mv (.tmp 2), none⟩, ⟨some
    38, .call (.func 138) [(.tmp 33), (.tmp 34), (.tmp 35), (.tmp 36), (.tmp 37)], none⟩]) (.cond (.tmp 38) (.exit 1) .skip)))) (.region [⟨some 39, .bin .add (.tmp 30) (.const (.int
    .i64 1)), none⟩, ⟨some 30, .mv (.tmp 39), none⟩]))))))) (.seq (.seq (.region [⟨some 40, .mv (.tmp 0), none⟩, ⟨some 41, .mv (.tmp 9), none⟩, ⟨some 42, .mv (.tmp 2), none⟩, ⟨some
    43, .call (.func 105) [(.tmp 40), (.tmp 41), (.tmp 42)], none⟩, ⟨some 11, .mv (.tmp 43), none⟩]) (.seq (.region [⟨some 44, .mv (.tmp 11), none⟩, ⟨some 45, .isnil true (.tmp 44),
    none⟩]) (.cond (.tmp 45) (.seq (.region [⟨some 46, .mv (.tmp 11), none⟩, ⟨some 6, .mv (.tmp 46), none⟩]) .ret) .skip))) (.seq (.region [⟨some 47, .mv (.tmp 7), none⟩, ⟨some 48,
    .bin .eql (.tmp 47) (.const (.int .i64 0)), none⟩]) (.cond (.tmp 48) (.exit 0) .skip))))))) (.region [⟨some 49, .bin .add (.tmp 20) (.const (.int .i64 1)), none⟩, ⟨some 20, .mv
    (.tmp 49), none⟩]))))))) (.seq (.region [⟨some 6, .mv (.const (.slice none 0 0)), none⟩]) .ret)))))))
theorem low105 : lowF Tryz.prog [] Tryz.f105 = some (50, lc105.strip, [.tmp 6]) := by kernel_rfl
theorem fn105 : FnOk Tryz.prog 105 50 lc105 [.tmp 6] := ⟨Tryz.call105, [], _, Tryz.func105, low105⟩
/-- moonpool/sonar.gridErr -/
def lc110 : LCode :=
  (.seq (.region [⟨some 6, .mv (.const (.int .i64 0)), none⟩]) (.seq (.region [⟨some 7, .mv (.func 145), none⟩]) (.seq (.region [⟨some 8, .mv (.tmp 7), none⟩, ⟨some 9, .mv (.tmp 0),
    none⟩, ⟨some 10, .call (.tmp 8) [(.tmp 9)], none⟩, ⟨some 11, .mv (.tmp 10), none⟩, ⟨some 12, .mv (.tmp 7), some (11, true)⟩, ⟨some 13, .mv (.tmp 1), some (11, true)⟩, ⟨some 14,
    .call (.tmp 12) [(.tmp 13)], some (11, true)⟩, ⟨some 15, .pick (.tmp 11) (.tmp 14) (.const (.bool false)), none⟩, ⟨some 16, .call (.func 56) [(.tmp 15), (.const (.int .i64 2))],
    none⟩, ⟨some 17, .mv (.tmp 2), none⟩, ⟨some 18, .bin .leq (.tmp 17) (.const (.int .i64 10)), none⟩, ⟨some 19, .call (.func 56) [(.tmp 18), (.const (.int .i64 8))], none⟩, ⟨some
    20, .lit false 33 1 [(.tmp 16), (.tmp 19)], none⟩, ⟨some 21, .call (.func 55) [(.tmp 20)], none⟩, ⟨some 6, .mv (.tmp 21), none⟩]) .ret)))
theorem low110 : lowF Tryz.prog [] Tryz.f110 = some (22, lc110.strip, [.tmp 6]) := by kernel_rfl
theorem fn110 : FnOk Tryz.prog 110 22 lc110 [.tmp 6] := ⟨Tryz.call110, [], _, Tryz.func110, low110⟩
/-- moonpool/sonar.rayErr -/
def lc113 : LCode :=
  (.seq (.region [⟨some 3, .boxS (.tmp 0), none⟩, ⟨some 6, .mv (.const (.int .i64 0)), none⟩]) (.seq (.region [⟨some 7, .fld 0 (.tmp 3), none⟩, ⟨some 8, .load true 2 (.tmp 7),
    none⟩, ⟨some 9, .mv (.tmp 1), none⟩, ⟨some 10, .mv (.tmp 2), none⟩, ⟨some 11, .call (.func 146) [(.tmp 8), (.tmp 9), (.tmp 10)], none⟩, ⟨some 12, .mv (.tmp 11), none⟩, ⟨some 13,
    .fld 2 (.tmp 3), some (12, true)⟩, ⟨some 14, .load true 2 (.tmp 13), some (12, true)⟩, ⟨some 15, .mv (.tmp 1), some (12, true)⟩, ⟨some 16, .mv (.tmp 2), some (12, true)⟩, ⟨some
    17, .call (.func 146) [(.tmp 14), (.tmp 15), (.tmp 16)], some (12, true)⟩, ⟨some 18, .pick (.tmp 12) (.tmp 17) (.const (.bool false)), none⟩, ⟨some 19, .call (.func 56) [(.tmp
    18), (.const (.int .i64 6))], none⟩, ⟨some 6, .mv (.tmp 19), none⟩]) .ret))
theorem low113 : lowF Tryz.prog [3] Tryz.f113 = some (20, lc113.strip, [.tmp 6]) := by kernel_rfl
theorem fn113 : FnOk Tryz.prog 113 20 lc113 [.tmp 6] := ⟨Tryz.call113, [3], _, Tryz.func113, low113⟩
/-- moonpool/sonar.crossed -/
def lc116 : LCode :=
  (.seq (.region [⟨some 1, .boxS (.tmp 0), none⟩, ⟨some 2, .mv (.const (.slice none 0 0)), none⟩]) (.seq (.regionD [⟨some 9, .fld 2 (.tmp 1), none⟩, ⟨some 10, .fld 0 (.tmp 9),
    none⟩, ⟨some 11, .load false 1 (.tmp 10), none⟩, ⟨some 12, .fld 0 (.tmp 1), none⟩, ⟨some 13, .fld 0 (.tmp 12), none⟩, ⟨some 14, .load false 1 (.tmp 13), none⟩, ⟨some 15, .bin
    .sub (.tmp 11) (.tmp 14), none⟩, ⟨some 16, .fld 2 (.tmp 1), none⟩, ⟨some 17, .fld 1 (.tmp 16), none⟩, ⟨some 18, .load false 1 (.tmp 17), none⟩, ⟨some 19, .fld 0 (.tmp 1), none⟩,
    ⟨some 20, .fld 1 (.tmp 19), none⟩, ⟨some 21, .load false 1 (.tmp 20), none⟩, ⟨some 22, .bin .sub (.tmp 18) (.tmp 21), none⟩, ⟨some 3, .mv (.tmp 15), none⟩, ⟨some 4, .mv (.tmp
    22), none⟩] [0, 1, 3, 0, 8, 24, 63, 0, 128, 384, 0, 1024, 3072, 8064, 127, 32767] [0, 1, 2, 3, 4, 5, 6, 7, 8, 9, 10, 11, 12, 13, 14, 15]) (.seq (.region [⟨some 5, .mv (.const
    (.slice none 0 0)), none⟩]) (.seq (.seq (.region [⟨some 23, .fld 0 (.tmp 1), none⟩, ⟨some 24, .fld 1 (.tmp 23), none⟩, ⟨some 25, .load false 1 (.tmp 24), none⟩, ⟨some 26, .fld 2
    (.tmp 1), none⟩, ⟨some 27, .fld 1 (.tmp 26), none⟩, ⟨some 28, .load false 1 (.tmp 27), none⟩, ⟨some 29, .mm false [(.tmp 25), (.tmp 28)], none⟩, ⟨some 6, .mv (.tmp 29), none⟩])
    (.block 0 (.loop (.seq (.seq (.region [⟨some 30, .mv (.tmp 6), none⟩, ⟨some 31, .fld 0 (.tmp 1), none⟩, ⟨some 32, .fld 1 (.tmp 31), none⟩, ⟨some 33, .load false 1 (.tmp 32),
    none⟩, ⟨some 34, .fld 2 (.tmp 1), none⟩, ⟨some 35, .fld 1 (.tmp 34), none⟩, ⟨some 36, .load false 1 (.tmp 35), none⟩, ⟨some 37, .mm true [(.tmp 33), (.tmp 36)], none⟩, ⟨some 38,
    .bin .leq (.tmp 30) (.tmp 37), none⟩]) (.cond (.tmp 38) .skip (.exit 0))) (.seq (.block 1 (.seq (.region [⟨some 41, .fld 0 (.tmp 1), none⟩, ⟨some 42, .fld 0 (.tmp 41), none⟩,
    ⟨some 43, .load false 1 (.tmp 42), none⟩, ⟨some 44, .fld 2 (.tmp 1), none⟩, ⟨some 45, .fld 0 (.tmp 44), none⟩, ⟨some 46, .load false 1 (.tmp 45), none⟩, ⟨some 47, .mm false
    [(.tmp 43), (.tmp 46)], none⟩, ⟨some 7, .mv (.tmp 47), none⟩]) (.block 2 (.loop (.seq (.seq (.region [⟨some 48, .mv (.tmp 7), none⟩, ⟨some 49, .fld 0 (.tmp 1), none⟩, ⟨some 50,
    .fld 0 (.tmp 49), none⟩, ⟨some 51, .load false 1 (.tmp 50), none⟩, ⟨some 52, .fld 2 (.tmp 1), none⟩, ⟨some 53, .fld 0 (.tmp 52), none⟩, ⟨some 54, .load false 1 (.tmp 53), none⟩,
    ⟨some 55, .mm true [(.tmp 51), (.tmp 54)], none⟩, ⟨some 56, .bin .leq (.tmp 48) (.tmp 55), none⟩]) (.cond (.tmp 56) .skip (.exit 2))) (.seq (.block 3 (.seq (.region [⟨some 59,
    .mv (.tmp 3), none⟩, ⟨some 60, .bin .mul (.tmp 59) (.const (.int .i64 2)), none⟩, ⟨some 61, .mv (.tmp 6), none⟩, ⟨some 62, .fld 0 (.tmp 1), none⟩, ⟨some 63, .fld 1 (.tmp 62),
    none⟩, ⟨some 64, .load false 1 (.tmp 63), none⟩, ⟨some 65, .bin .sub (.tmp 61) (.tmp 64), none⟩, ⟨some 66, .bin .mul (.tmp 60) (.tmp 65), none⟩, ⟨some 67, .mv (.tmp 4), none⟩,
    ⟨some 68, .bin .mul (.tmp 67) (.const (.int .i64 2)), none⟩, ⟨some 69, .mv (.tmp 7), none⟩, ⟨some 70, .fld 0 (.tmp 1), none⟩, ⟨some 71, .fld 0 (.tmp 70), none⟩, ⟨some 72, .load
    false 1 (.tmp 71), none⟩, ⟨some 73, .bin .sub (.tmp 69) (.tmp 72), none⟩, ⟨some 74, .bin .mul (.tmp 68) (.tmp 73), none⟩, ⟨some 75, .bin .sub (.tmp 66) (.tmp 74), none⟩, ⟨some
    8, .mv (.tmp 75), none⟩]) (.seq (.region [⟨some 76, .mv (.tmp 8), none⟩, ⟨some 77, .call (.func 136) [(.tmp 76)], none⟩, ⟨some 78, .mv (.tmp 3), none⟩, ⟨some 79, .call (.func
    136) [(.tmp 78)], none⟩, ⟨some 80, .mv (.tmp 4), none⟩, ⟨some 81, .call (.func 136) [(.tmp 80)], none⟩, ⟨some 82, .bin .add (.tmp 79) (.tmp 81), none⟩, ⟨some 83, .bin .lss (.tmp
    77) (.tmp 82), none⟩, ⟨some 84, .mv (.tmp 83), none⟩, ⟨some 85, .mv (.tmp 3), some (84, false)⟩, ⟨some 86, .bin .eql (.tmp 85) (.const (.int .i64 0)), some (84, false)⟩, ⟨some
    87, .mv (.tmp 86), some (84, false)⟩, ⟨some 88, .mv (.tmp 4), some (87, true)⟩, ⟨some 89, .bin .eql (.tmp 88) (.const (.int .i64 0)), some (87, true)⟩, ⟨some 90, .pick (.tmp 87)
    (.tmp 89) (.const (.bool false)), some (84, false)⟩, ⟨some 91, .pick (.tmp 84) (.const (.bool true)) (.tmp 90), none⟩]) (.cond (.tmp 91) (.region [⟨some 92, .mv (.tmp 5), none⟩,
    ⟨some 93, .mv (.tmp 7), none⟩, ⟨some 94, .mv (.tmp 6), none⟩, ⟨some 95, .build [(.int .i64 0), (.int .i64 0)] [(0, 1, (.tmp 93)), (1, 1, (.tmp 94))], none⟩, ⟨some 96, .lit false
    49 2 [(.tmp 95)], none⟩, ⟨some 97, .append true 49 2 16 (.tmp 92) (.tmp 96), none⟩, ⟨some 5, .mv (.tmp 97), none⟩]) .skip)))) (.region [⟨some 57, .mv (.tmp 7), none⟩, ⟨some 58,
    .bin .add (.tmp 57) (.const (.int .i64 1)), none⟩, ⟨some 7, .mv (.tmp 58), none⟩]))))))) (.region [⟨some 39, .mv (.tmp 6), none⟩, ⟨some 40, .bin .add (.tmp 39) (.const (.int
    .i64 1)), none⟩, ⟨some 6, .mv (.tmp 40), none⟩])))))) (.seq (.region [⟨some 98, .mv (.tmp 5), none⟩, ⟨some 2, .mv (.tmp 98), none⟩]) .ret)))))
theorem low116 : lowF Tryz.prog [1, 97] Tryz.f116 = some (99, lc116.strip, [.tmp 2]) := by kernel_rfl
theorem fn116 : FnOk Tryz.prog 116 99 lc116 [.tmp 2] := ⟨Tryz.call116, [1, 97], _, Tryz.func116, low116⟩
/-- moonpool/sonar.cell -/
def lc118 : LCode :=
  (.seq (.region [⟨some 2, .boxS (.tmp 0), none⟩, ⟨some 4, .mv (.const (.int .i64 0)), none⟩]) (.seq (.region [⟨some 5, .fld 1 (.tmp 2), none⟩, ⟨some 6, .load false 1 (.tmp 5),
    none⟩, ⟨some 7, .mv (.tmp 1), none⟩, ⟨some 8, .bin .mul (.tmp 6) (.tmp 7), none⟩, ⟨some 9, .fld 0 (.tmp 2), none⟩, ⟨some 10, .load false 1 (.tmp 9), none⟩, ⟨some 11, .bin .add
    (.tmp 8) (.tmp 10), none⟩, ⟨some 4, .mv (.tmp 11), none⟩]) .ret))
theorem low118 : lowF Tryz.prog [2] Tryz.f118 = some (12, lc118.strip, [.tmp 4]) := by kernel_rfl
theorem fn118 : FnOk Tryz.prog 118 12 lc118 [.tmp 4] := ⟨Tryz.call118, [2], _, Tryz.func118, low118⟩
/-- strings.splitSeq$1 -/
def lc122 : LCode :=
  (.seq (.seq (.region [⟨some 9, .load false 1 (.tmp 1), none⟩, ⟨some 10, .lenS (.tmp 9), none⟩, ⟨some 11, .bin .eql (.tmp 10) (.const (.int .i64 0)), none⟩]) (.cond (.tmp 11) (.seq
    (.block 0 (.loop (.seq (.seq (.region [⟨some 12, .load false 1 (.tmp 2), none⟩, ⟨some 13, .lenS (.tmp 12), none⟩, ⟨some 14, .bin .gtr (.tmp 13) (.const (.int .i64 0)), none⟩])
    (.cond (.tmp 14) .skip (.exit 0))) (.block 1 (.seq (.region [⟨some 16, .load false 1 (.tmp 2), none⟩, ⟨some 17, .call (.func 123) [(.tmp 16)], none⟩, ⟨some 15, .mv (.tmp 17),
    none⟩, ⟨some 18, .ext (.tmp 15) 0, none⟩, ⟨some 19, .ext (.tmp 15) 1, none⟩, ⟨some 5, .mv (.tmp 18), none⟩, ⟨some 6, .mv (.tmp 19), none⟩]) (.seq (.seq (.region [⟨some 20, .mv
    (.tmp 0), none⟩, ⟨some 21, .load false 1 (.tmp 2), none⟩, ⟨some 22, .mv (.tmp 6), none⟩, ⟨some 23, .slcS (.tmp 21) none (some (.tmp 22)), none⟩, ⟨some 24, .call (.tmp 20) [(.tmp
    23)], none⟩, ⟨some 25, .un .not (.tmp 24), none⟩]) (.cond (.tmp 25) .ret .skip)) (.region [⟨some 26, .load false 1 (.tmp 2), none⟩, ⟨some 27, .mv (.tmp 6), none⟩, ⟨some 28,
    .slcS (.tmp 26) (some (.tmp 27)) none, none⟩, ⟨none, .store 1 (.tmp 2) (.tmp 28), none⟩]))))))) .ret) .skip)) (.seq (.block 2 (.loop (.block 3 (.seq (.region [⟨some 29, .load
    false 1 (.tmp 2), none⟩, ⟨some 30, .load false 1 (.tmp 1), none⟩, ⟨some 31, .call (.func 124) [(.tmp 29), (.tmp 30)], none⟩, ⟨some 7, .mv (.tmp 31), none⟩]) (.seq (.seq (.region
    [⟨some 32, .mv (.tmp 7), none⟩, ⟨some 33, .bin .lss (.tmp 32) (.const (.int .i64 0)), none⟩]) (.cond (.tmp 33) (.exit 2) .skip)) (.seq (.region [⟨some 34, .load false 1 (.tmp
    2), none⟩, ⟨some 35, .mv (.tmp 7), none⟩, ⟨some 36, .load false 1 (.tmp 3), none⟩, ⟨some 37, .bin .add (.tmp 35) (.tmp 36), none⟩, ⟨some 38, .slcS (.tmp 34) none (some (.tmp
    37)), none⟩, ⟨some 8, .mv (.tmp 38), none⟩]) (.seq (.seq (.region [⟨some 39, .mv (.tmp 0), none⟩, ⟨some 40, .mv (.tmp 8), none⟩, ⟨some 41, .call (.tmp 39) [(.tmp 40)], none⟩,
    ⟨some 42, .un .not (.tmp 41), none⟩]) (.cond (.tmp 42) .ret .skip)) (.region [⟨some 43, .load false 1 (.tmp 2), none⟩, ⟨some 44, .mv (.tmp 7), none⟩, ⟨some 45, .load false 1
    (.tmp 1), none⟩, ⟨some 46, .lenS (.tmp 45), none⟩, ⟨some 47, .bin .add (.tmp 44) (.tmp 46), none⟩, ⟨some 48, .slcS (.tmp 43) (some (.tmp 47)) none, none⟩, ⟨none, .store 1 (.tmp
    2) (.tmp 48), none⟩])))))))) (.region [⟨some 49, .mv (.tmp 0), none⟩, ⟨some 50, .load false 1 (.tmp 2), none⟩, ⟨some 51, .call (.tmp 49) [(.tmp 50)], none⟩])))
theorem low122 : lowF Tryz.prog [] Tryz.f122 = some (52, lc122.strip, []) := by kernel_rfl
theorem fn122 : FnOk Tryz.prog 122 52 lc122 [] := ⟨Tryz.call122, [], _, Tryz.func122, low122⟩
/-- moonpool/sonar.counted -/
def lc127 : LCode :=
  (.seq (.region [⟨some 4, .mv (.const (.int .i64 0)), none⟩]) (.seq (.region [⟨some 5, .mv (.tmp 0), none⟩, ⟨some 6, .bin .gtr (.tmp 5) (.const (.int .i64 0)), none⟩, ⟨some 7,
    .call (.func 56) [(.tmp 6), (.const (.int .i64 10))], none⟩, ⟨some 8, .mv (.tmp 0), none⟩, ⟨some 9, .mv (.tmp 1), none⟩, ⟨some 10, .bin .leq (.tmp 8) (.tmp 9), none⟩, ⟨some 11,
    .call (.func 56) [(.tmp 10), (.const (.int .i64 8))], none⟩, ⟨some 12, .lit false 33 1 [(.tmp 7), (.tmp 11)], none⟩, ⟨some 13, .call (.func 55) [(.tmp 12)], none⟩, ⟨some 4, .mv
    (.tmp 13), none⟩]) .ret))
theorem low127 : lowF Tryz.prog [] Tryz.f127 = some (14, lc127.strip, [.tmp 4]) := by kernel_rfl
theorem fn127 : FnOk Tryz.prog 127 14 lc127 [.tmp 4] := ⟨Tryz.call127, [], _, Tryz.func127, low127⟩
/-- moonpool/sonar.each[moonpool/api.SonarDevice] -/
def lc128 : LCode :=
  (.seq (.region [⟨some 4, .mv (.const (.int .i64 0)), none⟩, ⟨some 5, .mv (.const (.int .i64 0)), none⟩]) (.seq (.seq (.region [⟨some 9, .mv (.tmp 0), none⟩, ⟨some 10, .len (.tmp
    9), none⟩, ⟨some 11, .mv (.const (.int .i64 0)), none⟩]) (.block 0 (.loop (.seq (.region [⟨some 12, .bin .lss (.tmp 11) (.tmp 10), none⟩]) (.seq (.cond (.tmp 12) .skip (.exit
    0)) (.seq (.block 1 (.seq (.region [⟨some 13, .mv (.tmp 11), none⟩, ⟨some 14, .idx 3 (.tmp 9) (.tmp 11), none⟩, ⟨some 15, .load true 3 (.tmp 14), none⟩, ⟨some 7, .alloc [(.int
    .i64 0), (.int .i64 0), (.int .i64 0)], none⟩, ⟨some 6, .mv (.tmp 13), none⟩, ⟨none, .store 3 (.tmp 7) (.tmp 15), none⟩]) (.seq (.region [⟨some 16, .mv (.tmp 1), none⟩, ⟨some
    17, .mv (.tmp 6), none⟩, ⟨some 18, .load true 3 (.tmp 7), none⟩, ⟨some 19, .call (.tmp 16) [(.tmp 17), (.tmp 18)], none⟩, ⟨some 8, .mv (.tmp 19), none⟩]) (.seq (.region [⟨some
    20, .mv (.tmp 8), none⟩, ⟨some 21, .bin .neq (.tmp 20) (.const (.int .i64 0)), none⟩]) (.cond (.tmp 21) (.seq (.region [⟨some 22, .mv (.tmp 6), none⟩, ⟨some 23, .mv (.tmp 8),
    none⟩, ⟨some 4, .mv (.tmp 22), none⟩, ⟨some 5, .mv (.tmp 23), none⟩]) .ret) .skip))))) (.region [⟨some 24, .bin .add (.tmp 11) (.const (.int .i64 1)), none⟩, ⟨some 11, .mv (.tmp
    24), none⟩]))))))) (.seq (.region [⟨some 4, .mv (.const (.int .i64 0)), none⟩, ⟨some 5, .mv (.const (.int .i64 0)), none⟩]) .ret)))
theorem low128 : lowF Tryz.prog [] Tryz.f128 = some (25, lc128.strip, [.tmp 4, .tmp 5]) := by kernel_rfl
theorem fn128 : FnOk Tryz.prog 128 25 lc128 [.tmp 4, .tmp 5] := ⟨Tryz.call128, [], _, Tryz.func128, low128⟩
/-- moonpool/sonar.CheckDevices$1 -/
def lc129 : LCode :=
  (.seq (.region [⟨some 3, .boxS (.tmp 1), none⟩, ⟨some 4, .mv (.const (.int .i64 0)), none⟩]) (.seq (.region [⟨some 6, .fld 0 (.tmp 3), none⟩, ⟨some 7, .load false 1 (.tmp 6),
    none⟩, ⟨some 8, .call (.func 69) [(.tmp 7), (.const (.int .i64 0)), (.const (.int .i64 20))], none⟩, ⟨some 9, .mv (.tmp 8), none⟩, ⟨some 10, .fld 1 (.tmp 3), some (9, true)⟩,
    ⟨some 11, .load false 1 (.tmp 10), some (9, true)⟩, ⟨some 12, .call (.func 69) [(.tmp 11), (.const (.int .i64 1)), (.const (.int .i64 10))], some (9, true)⟩, ⟨some 13, .pick
    (.tmp 9) (.tmp 12) (.const (.bool false)), none⟩, ⟨some 14, .mv (.tmp 13), none⟩, ⟨some 15, .fld 2 (.tmp 3), some (14, true)⟩, ⟨some 16, .load false 1 (.tmp 15), some (14,
    true)⟩, ⟨some 17, .call (.func 69) [(.tmp 16), (.const (.int .i64 0)), (.const (.int .i64 10))], some (14, true)⟩, ⟨some 18, .pick (.tmp 14) (.tmp 17) (.const (.bool false)),
    none⟩, ⟨some 5, .mv (.tmp 18), none⟩]) (.seq (.region [⟨some 19, .mv (.tmp 5), none⟩, ⟨some 20, .call (.func 56) [(.tmp 19), (.const (.int .i64 2))], none⟩, ⟨some 4, .mv (.tmp
    20), none⟩]) .ret)))
theorem low129 : lowF Tryz.prog [3] Tryz.f129 = some (21, lc129.strip, [.tmp 4]) := by kernel_rfl
theorem fn129 : FnOk Tryz.prog 129 21 lc129 [.tmp 4] := ⟨Tryz.call129, [3], _, Tryz.func129, low129⟩
/-- moonpool/sonar.each[moonpool/api.SonarRay] -/
def lc131 : LCode :=
  (.seq (.region [⟨some 4, .mv (.const (.int .i64 0)), none⟩, ⟨some 5, .mv (.const (.int .i64 0)), none⟩]) (.seq (.seq (.region [⟨some 9, .mv (.tmp 0), none⟩, ⟨some 10, .len (.tmp
    9), none⟩, ⟨some 11, .mv (.const (.int .i64 0)), none⟩]) (.block 0 (.loop (.seq (.region [⟨some 12, .bin .lss (.tmp 11) (.tmp 10), none⟩]) (.seq (.cond (.tmp 12) .skip (.exit
    0)) (.seq (.block 1 (.seq (.region [⟨some 13, .mv (.tmp 11), none⟩, ⟨some 14, .idx 5 (.tmp 9) (.tmp 11), none⟩, ⟨some 15, .load true 5 (.tmp 14), none⟩, ⟨some 7, .alloc [(.int
    .i64 0), (.int .i64 0), (.int .i64 0), (.int .i64 0), (.bool false)], none⟩, ⟨some 6, .mv (.tmp 13), none⟩, ⟨none, .store 5 (.tmp 7) (.tmp 15), none⟩]) (.seq (.region [⟨some 16,
    .mv (.tmp 1), none⟩, ⟨some 17, .mv (.tmp 6), none⟩, ⟨some 18, .load true 5 (.tmp 7), none⟩, ⟨some 19, .call (.tmp 16) [(.tmp 17), (.tmp 18)], none⟩, ⟨some 8, .mv (.tmp 19),
    none⟩]) (.seq (.region [⟨some 20, .mv (.tmp 8), none⟩, ⟨some 21, .bin .neq (.tmp 20) (.const (.int .i64 0)), none⟩]) (.cond (.tmp 21) (.seq (.region [⟨some 22, .mv (.tmp 6),
    none⟩, ⟨some 23, .mv (.tmp 8), none⟩, ⟨some 4, .mv (.tmp 22), none⟩, ⟨some 5, .mv (.tmp 23), none⟩]) .ret) .skip))))) (.region [⟨some 24, .bin .add (.tmp 11) (.const (.int .i64
    1)), none⟩, ⟨some 11, .mv (.tmp 24), none⟩]))))))) (.seq (.region [⟨some 4, .mv (.const (.int .i64 0)), none⟩, ⟨some 5, .mv (.const (.int .i64 0)), none⟩]) .ret)))
theorem low131 : lowF Tryz.prog [] Tryz.f131 = some (25, lc131.strip, [.tmp 4, .tmp 5]) := by kernel_rfl
theorem fn131 : FnOk Tryz.prog 131 25 lc131 [.tmp 4, .tmp 5] := ⟨Tryz.call131, [], _, Tryz.func131, low131⟩
/-- moonpool/sonar.CheckScene$1 -/
def lc132 : LCode :=
  (.seq (.region [⟨some 4, .boxS (.tmp 1), none⟩, ⟨some 5, .mv (.const (.int .i64 0)), none⟩]) (.seq (.region [⟨some 6, .load true 5 (.tmp 4), none⟩, ⟨some 7, .fld 0 (.tmp 2),
    none⟩, ⟨some 8, .load false 1 (.tmp 7), none⟩, ⟨some 9, .fld 1 (.tmp 2), none⟩, ⟨some 10, .load false 1 (.tmp 9), none⟩, ⟨some 11, .call (.func 113) [(.tmp 6), (.tmp 8), (.tmp
    10)], none⟩, ⟨some 5, .mv (.tmp 11), none⟩]) .ret))
theorem low132 : lowF Tryz.prog [4] Tryz.f132 = some (12, lc132.strip, [.tmp 5]) := by kernel_rfl
theorem fn132 : FnOk Tryz.prog 132 12 lc132 [.tmp 5] := ⟨Tryz.call132, [4], _, Tryz.func132, low132⟩
/-- cmp.isNaN[int] -/
def lc134 : LCode :=
  (.seq (.region [⟨some 2, .mv (.const (.bool false)), none⟩]) (.seq (.region [⟨some 3, .mv (.tmp 0), none⟩, ⟨some 4, .mv (.tmp 0), none⟩, ⟨some 5, .bin .neq (.tmp 3) (.tmp 4),
    none⟩, ⟨some 2, .mv (.tmp 5), none⟩]) .ret))
theorem low134 : lowF Tryz.prog [] Tryz.f134 = some (6, lc134.strip, [.tmp 2]) := by kernel_rfl
theorem fn134 : FnOk Tryz.prog 134 6 lc134 [.tmp 2] := ⟨Tryz.call134, [], _, Tryz.func134, low134⟩
/-- moonpool/sonar.said$1 -/
def lc135 : LCode :=
  (.seq (.region [⟨some 7, .load true 5 (.tmp 1), none⟩, ⟨some 8, .call (.func 116) [(.tmp 7)], none⟩, ⟨some 9, .len (.tmp 8), none⟩, ⟨some 10, .mv (.const (.int .i64 0)), none⟩])
    (.block 0 (.loop (.seq (.region [⟨some 11, .bin .lss (.tmp 10) (.tmp 9), none⟩]) (.seq (.cond (.tmp 11) .skip (.exit 0)) (.seq (.block 1 (.seq (.region [⟨some 12, .idx 2 (.tmp
    8) (.tmp 10), none⟩, ⟨some 13, .load true 2 (.tmp 12), none⟩, ⟨some 5, .alloc [(.int .i64 0), (.int .i64 0)], none⟩, ⟨none, .store 2 (.tmp 5) (.tmp 13), none⟩]) (.seq (.region
    [⟨some 6, .mv (.const (.int .i64 1)), none⟩]) (.seq (.seq (.region [⟨some 14, .load true 2 (.tmp 5), none⟩, ⟨some 15, .fld 2 (.tmp 1), none⟩, ⟨some 16, .load true 2 (.tmp 15),
    none⟩, ⟨some 17, .eqA false [false, false] (.tmp 14) (.tmp 16), none⟩, ⟨some 18, .mv (.tmp 17), none⟩, ⟨some 19, .fld 4 (.tmp 1), some (18, true)⟩, ⟨some 20, .load false 1 (.tmp
    19), some (18, true)⟩, ⟨some 21, .pick (.tmp 18) (.tmp 20) (.const (.bool false)), none⟩]) (.cond (.tmp 21) (.region [⟨some 6, .mv (.const (.int .i64 2)), none⟩]) .skip)) (.seq
    (.region [⟨some 22, .mv (.tmp 0), none⟩, ⟨some 23, .load true 2 (.tmp 5), none⟩, ⟨some 24, .load false 1 (.tmp 2), none⟩, ⟨some 25, .call (.func 118) [(.tmp 23), (.tmp 24)],
    none⟩, ⟨some 26, .mv (.tmp 6), none⟩, ⟨some 27, .build [(.int .i64 0), (.int .i64 0)] [(0, 1, (.tmp 25)), (1, 1, (.tmp 26))], none⟩, ⟨some 28, .call (.tmp 22) [(.tmp 27)],
    none⟩, ⟨some 29, .un .not (.tmp 28), none⟩]) (.cond (.tmp 29) .ret .skip)))))) (.region [⟨some 30, .bin .add (.tmp 10) (.const (.int .i64 1)), none⟩, ⟨some 10, .mv (.tmp 30),
    none⟩])))))))
theorem low135 : lowF Tryz.prog [] Tryz.f135 = some (31, lc135.strip, []) := by kernel_rfl
theorem fn135 : FnOk Tryz.prog 135 31 lc135 [] := ⟨Tryz.call135, [], _, Tryz.func135, low135⟩
/-- moonpool/sonar.size -/
def lc136 : LCode :=
  (.seq (.region [⟨some 2, .mv (.const (.int .i64 0)), none⟩]) (.seq (.region [⟨some 3, .mv (.tmp 0), none⟩, ⟨some 4, .mv (.tmp 0), none⟩, ⟨some 5, .un .neg (.tmp 4), none⟩, ⟨some
    6, .mm true [(.tmp 3), (.tmp 5)], none⟩, ⟨some 2, .mv (.tmp 6), none⟩]) .ret))
theorem low136 : lowF Tryz.prog [] Tryz.f136 = some (7, lc136.strip, [.tmp 2]) := by kernel_rfl
theorem fn136 : FnOk Tryz.prog 136 7 lc136 [.tmp 2] := ⟨Tryz.call136, [], _, Tryz.func136, low136⟩
/-- slices.Clip[[]int,int] -/
def lc137 : LCode :=
  (.seq (.region [⟨some 2, .mv (.const (.slice none 0 0)), none⟩]) (.seq (.region [⟨some 3, .mv (.tmp 0), none⟩, ⟨some 4, .mv (.tmp 0), none⟩, ⟨some 5, .len (.tmp 4), none⟩, ⟨some
    6, .mv (.tmp 0), none⟩, ⟨some 7, .len (.tmp 6), none⟩, ⟨some 8, .clip 1 (.tmp 3) (.tmp 5) (.tmp 7), none⟩, ⟨some 2, .mv (.tmp 8), none⟩]) .ret))
theorem low137 : lowF Tryz.prog [] Tryz.f137 = some (9, lc137.strip, [.tmp 2]) := by kernel_rfl
theorem fn137 : FnOk Tryz.prog 137 9 lc137 [.tmp 2] := ⟨Tryz.call137, [], _, Tryz.func137, low137⟩
/-- moonpool/sonar.blind -/
def lc138 : LCode :=
  (.seq (.region [⟨some 10, .mv (.const (.bool false)), none⟩]) (.seq (.seq (.region [⟨some 11, .mv (.tmp 2), none⟩, ⟨some 12, .mv (.tmp 3), none⟩, ⟨some 13, .bin .eql (.tmp 11)
    (.tmp 12), none⟩]) (.cond (.tmp 13) (.seq (.region [⟨some 14, .mv (.tmp 0), none⟩, ⟨some 15, .mv (.tmp 2), none⟩, ⟨some 16, .idx 3 (.tmp 14) (.tmp 15), none⟩, ⟨some 17, .load
    true 3 (.tmp 16), none⟩, ⟨some 18, .call (.func 103) [(.tmp 17)], none⟩, ⟨some 19, .mv (.tmp 4), none⟩, ⟨some 20, .bin .gtr (.tmp 18) (.tmp 19), none⟩, ⟨some 10, .mv (.tmp 20),
    none⟩]) .ret) .skip)) (.seq (.regionD [⟨some 21, .mv (.tmp 0), none⟩, ⟨some 22, .mv (.tmp 2), none⟩, ⟨some 23, .idx 3 (.tmp 21) (.tmp 22), none⟩, ⟨some 24, .load true 3 (.tmp
    23), none⟩, ⟨some 25, .mv (.tmp 0), none⟩, ⟨some 26, .mv (.tmp 3), none⟩, ⟨some 27, .idx 3 (.tmp 25) (.tmp 26), none⟩, ⟨some 28, .load true 3 (.tmp 27), none⟩, ⟨some 29, .call
    (.func 102) [(.tmp 24), (.tmp 28)], none⟩, ⟨some 30, .mv (.tmp 29), none⟩, ⟨some 31, .mv (.tmp 0), some (30, true)⟩, ⟨some 32, .mv (.tmp 2), some (30, true)⟩, ⟨some 33, .idx 3
    (.tmp 31) (.tmp 32), some (30, true)⟩, ⟨some 34, .load true 3 (.tmp 33), some (30, true)⟩, ⟨some 35, .mv (.tmp 0), some (30, true)⟩, ⟨some 36, .mv (.tmp 3), some (30, true)⟩,
    ⟨some 37, .idx 3 (.tmp 35) (.tmp 36), some (30, true)⟩, ⟨some 38, .load true 3 (.tmp 37), some (30, true)⟩, ⟨some 39, .mv (.tmp 1), some (30, true)⟩, ⟨some 40, .mv (.tmp 2),
    some (30, true)⟩, ⟨some 41, .idx 1 (.tmp 39) (.tmp 40), some (30, true)⟩, ⟨some 42, .load false 1 (.tmp 41), some (30, true)⟩, ⟨some 43, .mv (.tmp 1), some (30, true)⟩, ⟨some
    44, .mv (.tmp 3), some (30, true)⟩, ⟨some 45, .idx 1 (.tmp 43) (.tmp 44), some (30, true)⟩, ⟨some 46, .load false 1 (.tmp 45), some (30, true)⟩, ⟨some 47, .mv (.tmp 4), some
    (30, true)⟩, ⟨some 48, .call (.func 161) [(.tmp 34), (.tmp 38), (.tmp 42), (.tmp 46), (.tmp 47)], some (30, true)⟩, ⟨some 49, .pick (.tmp 30) (.tmp 48) (.const (.bool false)),
    none⟩, ⟨some 10, .mv (.tmp 49), none⟩] [0, 0, 3, 7, 0, 0, 48, 112, 255, 511, 1023, 1023, 4095, 8191, 1023, 1023, 50175, 115711, 1023, 1023, 787455, 1836031, 1023, 1023,
    12583935, 29361151, 1023, 134217727, 268435455, 536870911] [0, 1, 2, 3, 4, 5, 6, 7, 8, 9, 10, 11, 12, 13, 14, 15, 16, 17, 18, 19, 20, 21, 22, 23, 24, 25, 26, 27, 28, 29])
    .ret)))
theorem low138 : lowF Tryz.prog [] Tryz.f138 = some (50, lc138.strip, [.tmp 10]) := by kernel_rfl
theorem fn138 : FnOk Tryz.prog 138 50 lc138 [.tmp 10] := ⟨Tryz.call138, [], _, Tryz.func138, low138⟩
/-- moonpool/sonar.gridErr$1 -/
def lc145 : LCode :=
  (.seq (.region [⟨some 2, .mv (.const (.bool false)), none⟩]) (.seq (.region [⟨some 3, .mv (.tmp 0), none⟩, ⟨some 4, .call (.func 69) [(.tmp 3), (.const (.int .i64 1)), (.const
    (.int .i64 12))], none⟩, ⟨some 2, .mv (.tmp 4), none⟩]) .ret))
theorem low145 : lowF Tryz.prog [] Tryz.f145 = some (5, lc145.strip, [.tmp 2]) := by kernel_rfl
theorem fn145 : FnOk Tryz.prog 145 5 lc145 [.tmp 2] := ⟨Tryz.call145, [], _, Tryz.func145, low145⟩
/-- moonpool/sonar.isCell -/
def lc146 : LCode :=
  (.seq (.region [⟨some 3, .boxS (.tmp 0), none⟩, ⟨some 6, .mv (.const (.bool false)), none⟩]) (.seq (.region [⟨some 7, .fld 0 (.tmp 3), none⟩, ⟨some 8, .load false 1 (.tmp 7),
    none⟩, ⟨some 9, .mv (.tmp 1), none⟩, ⟨some 10, .bin .sub (.tmp 9) (.const (.int .i64 1)), none⟩, ⟨some 11, .call (.func 69) [(.tmp 8), (.const (.int .i64 0)), (.tmp 10)], none⟩,
    ⟨some 12, .mv (.tmp 11), none⟩, ⟨some 13, .fld 1 (.tmp 3), some (12, true)⟩, ⟨some 14, .load false 1 (.tmp 13), some (12, true)⟩, ⟨some 15, .mv (.tmp 2), some (12, true)⟩, ⟨some
    16, .bin .sub (.tmp 15) (.const (.int .i64 1)), some (12, true)⟩, ⟨some 17, .call (.func 69) [(.tmp 14), (.const (.int .i64 0)), (.tmp 16)], some (12, true)⟩, ⟨some 18, .pick
    (.tmp 12) (.tmp 17) (.const (.bool false)), none⟩, ⟨some 6, .mv (.tmp 18), none⟩]) .ret))
theorem low146 : lowF Tryz.prog [3] Tryz.f146 = some (19, lc146.strip, [.tmp 6]) := by kernel_rfl
theorem fn146 : FnOk Tryz.prog 146 19 lc146 [.tmp 6] := ⟨Tryz.call146, [3], _, Tryz.func146, low146⟩
/-- moonpool/sonar.meet -/
def lc161 : LCode :=
  (.seq (.region [⟨some 5, .boxS (.tmp 0), none⟩, ⟨some 6, .boxS (.tmp 1), none⟩, ⟨some 10, .mv (.const (.bool false)), none⟩]) (.seq (.region [⟨some 12, .mv (.tmp 3), none⟩, ⟨some
    13, .mv (.tmp 2), none⟩, ⟨some 14, .bin .sub (.tmp 12) (.tmp 13), none⟩, ⟨some 15, .mv (.tmp 4), none⟩, ⟨some 16, .bin .add (.tmp 14) (.tmp 15), none⟩, ⟨some 17, .mv (.tmp 4),
    none⟩, ⟨some 18, .bin .rem (.tmp 16) (.tmp 17), none⟩, ⟨some 11, .mv (.tmp 18), none⟩]) (.seq (.regionD [⟨some 19, .mv (.tmp 11), none⟩, ⟨some 20, .load true 3 (.tmp 5), none⟩,
    ⟨some 21, .call (.func 103) [(.tmp 20)], none⟩, ⟨some 22, .bin .lss (.tmp 19) (.tmp 21), none⟩, ⟨some 23, .mv (.tmp 22), none⟩, ⟨some 24, .mv (.tmp 4), some (23, false)⟩, ⟨some
    25, .mv (.tmp 11), some (23, false)⟩, ⟨some 26, .bin .sub (.tmp 24) (.tmp 25), some (23, false)⟩, ⟨some 27, .mv (.tmp 4), some (23, false)⟩, ⟨some 28, .bin .rem (.tmp 26) (.tmp
    27), some (23, false)⟩, ⟨some 29, .load true 3 (.tmp 6), some (23, false)⟩, ⟨some 30, .call (.func 103) [(.tmp 29)], some (23, false)⟩, ⟨some 31, .bin .lss (.tmp 28) (.tmp 30),
    some (23, false)⟩, ⟨some 32, .pick (.tmp 23) (.const (.bool true)) (.tmp 31), none⟩, ⟨some 10, .mv (.tmp 32), none⟩] [0, 0, 2, 7, 15, 31, 31, 127, 31, 511, 31, 1055, 4095, 8191,
    16383] [0, 1, 2, 3, 4, 5, 6, 7, 8, 9, 10, 11, 12, 13, 14]) .ret)))
theorem low161 : lowF Tryz.prog [5, 6] Tryz.f161 = some (33, lc161.strip, [.tmp 10]) := by kernel_rfl
theorem fn161 : FnOk Tryz.prog 161 33 lc161 [.tmp 10] := ⟨Tryz.call161, [5, 6], _, Tryz.func161, low161⟩
end Go.Pw

set_option linter.unusedSimpArgs false
set_option linter.unusedVariables false
namespace Go.Pw
set_option maxRecDepth 2000
open Go Go.Proofs A1 A2 A3 A4
instance : Mix Tryz.prog := ⟨⟨by kernel_rfl⟩⟩
theorem C23 {n lo hi : Int} : PFD Tryz.prog 23 [vi .i64 n, vi .i64 lo, vi .i64 hi] (vbl (decide (lo ≤ n ∧ n ≤ hi))) := by
  refine pi1 fn23 ?_
  (repeat' first | (refine Owe.same ?_; first | refine Owe.o ?_ | refine Owe.mk ?_ ?_) | (refine Fork.same ?_; (first | refine fkD ?_ ?_ | refine fkN ?_ ?_ | refine fkM ?_ ?_) <;> intro h) | refine MvQ.stay ?_)
  · (refine rqK rfl ?_; (repeat' first | exact rfl | (refine qS ?_; constructor))); simp [*]
  · (refine rqK rfl ?_; (repeat' first | exact rfl | (refine qS ?_; constructor))); simp only [decide_eq_false_iff_not]; omega
theorem C69 {n lo hi : Int} : PFD Tryz.prog 69 [vi .i64 n, vi .i64 lo, vi .i64 hi] (vbl (decide (lo ≤ n ∧ n ≤ hi))) := by
  refine pi1 fn69 ?_
  (repeat' first | (refine Owe.same ?_; first | refine Owe.o ?_ | refine Owe.mk ?_ ?_) | (refine Fork.same ?_; (first | refine fkD ?_ ?_ | refine fkN ?_ ?_ | refine fkM ?_ ?_) <;> intro h) | refine MvQ.stay ?_)
  · (refine rqK rfl ?_; (repeat' first | exact rfl | (refine qS ?_; constructor))); simp [*]
  · (refine rqK rfl ?_; (repeat' first | exact rfl | (refine qS ?_; constructor))); simp only [decide_eq_false_iff_not]; omega
theorem C136 {n : Int} : (-4611686018427387904 ≤ n ∧ n ≤ 4611686018427387904) → PFD Tryz.prog 136 [vi .i64 n] (vi .i64 (max n (-n))) := fun h => by
  refine pi1 fn136 ?_
  (repeat' first | (refine Owe.same ?_; first | refine Owe.o ?_ | refine Owe.mk ?_ ?_) | (refine Fork.same ?_; (first | refine fkD ?_ ?_ | refine fkN ?_ ?_ | refine fkM ?_ ?_) <;> intro h) | refine MvQ.stay ?_)
  (refine rqK rfl ?_; (repeat' first | exact rfl | (refine qS ?_; constructor)))
theorem C56 {b : Bool} {e : Int} : PFD Tryz.prog 56 [vbl b, vi .i64 e] (vi .i64 (unb b e)) := by
  refine pi1 fn56 ?_
  (repeat' first | (refine Owe.same ?_; first | refine Owe.o ?_ | refine Owe.mk ?_ ?_) | (refine Fork.same ?_; (first | refine fkD ?_ ?_ | refine fkN ?_ ?_ | refine fkM ?_ ?_) <;> intro h) | refine MvQ.stay ?_)
  · (refine rqK rfl ?_; (repeat' first | exact rfl | (refine qS ?_; constructor))); simp [unb, *]
  · (refine rqK rfl ?_; (repeat' first | exact rfl | (refine qS ?_; constructor))); simp [unb, *]
theorem C55 {l : List Int} : l.length < 4611686018427387904 → PFD Tryz.prog 55 [.c (ints l)] (vi .i64 (fstE l)) := fun hl => by
  refine pi1 fn55 ?_
  (repeat' first | (refine Owe.same ?_; first | refine Owe.o ?_ | refine Owe.mk ?_ ?_) | (refine Fork.same ?_; (first | refine fkD ?_ ?_ | refine fkN ?_ ?_ | refine fkM ?_ ?_) <;> intro h) | refine MvQ.stay ?_)
  refine Sat.lp0 (fun k : Nat => [(7, vi .i64 k), (6, vi .i64 l.length), (5, .c (ints l))]) (fun k => k ≤ l.length ∧ fstE l = fstE (l.drop k)) (fun k => l.length - k) 0 ⟨Nat.zero_le _, rfl⟩ (by ((first | refine qen ?_ | refine qvs ?_ | refine qeq ?_ | refine qst ?_ | refine qv ?_ | refine qc ?_ | refine qe ?_ | refine qcs ?_ | skip); (repeat' first | exact rfl | (refine qS ?_; constructor)))) ?_
  intro k hk
  (repeat' first | (refine Owe.same ?_; first | refine Owe.o ?_ | refine Owe.mk ?_ ?_) | (refine Fork.same ?_; (first | refine fkD ?_ ?_ | refine fkN ?_ ?_ | refine fkM ?_ ?_) <;> intro h) | refine MvQ.stay ?_)
  · simp only [Int.toNat_natCast] at h
    (refine rqK rfl ?_; (repeat' first | exact rfl | (refine qS ?_; constructor)))
    rw [hk.2, fstE_drop l k (by omega), if_neg h, Int.toNat_natCast]
  · simp only [Int.toNat_natCast] at h
    refine again0 (k + 1) ⟨by omega, ?_⟩ (by omega) (by ((first | refine qen ?_ | refine qvs ?_ | refine qeq ?_ | refine qst ?_ | refine qv ?_ | refine qc ?_ | refine qe ?_ | refine qcs ?_ | skip); (repeat' first | exact rfl | (refine qS ?_; constructor))))
    rw [hk.2, fstE_drop l k (by omega), if_pos h]
  · (refine rqK rfl ?_; (repeat' first | exact rfl | (refine qS ?_; constructor)))
    rw [hk.2, List.drop_of_length_le (by omega)]; rfl
theorem C40 {l m : List Int} : l.length < 4611686018427387904 → PFD Tryz.prog 40 [.c (ints l), .c (ints m)] (vbl (decide (l = m))) := fun hl => by
  refine pi1 fn40 ?_
  (repeat' first | (refine Owe.same ?_; first | refine Owe.o ?_ | refine Owe.mk ?_ ?_) | (refine Fork.same ?_; (first | refine fkD ?_ ?_ | refine fkN ?_ ?_ | refine fkM ?_ ?_) <;> intro h) | refine MvQ.stay ?_)
  · (refine rqK rfl ?_; (repeat' first | exact rfl | (refine qS ?_; constructor))); simp only [decide_eq_false_iff_not]; intro he; subst he; omega
  · have hlm : l.length = m.length := by omega
    clear h
    refine Sat.lp0 (fun k : Nat => [(5, vi .i64 k), (0, .c (ints l)), (1, .c (ints m))]) (fun k => k ≤ l.length ∧ ∀ i, i < k → l.getD i 0 = m.getD i 0) (fun k => l.length - k) 0 ⟨Nat.zero_le _, fun i hi => by omega⟩ (by ((first | refine qen ?_ | refine qvs ?_ | refine qeq ?_ | refine qst ?_ | refine qv ?_ | refine qc ?_ | refine qe ?_ | refine qcs ?_ | skip); (repeat' first | exact rfl | (refine qS ?_; constructor)))) ?_
    intro k hk
    (repeat' first | (refine Owe.same ?_; first | refine Owe.o ?_ | refine Owe.mk ?_ ?_) | (refine Fork.same ?_; (first | refine fkD ?_ ?_ | refine fkN ?_ ?_ | refine fkM ?_ ?_) <;> intro h) | refine MvQ.stay ?_)
    · simp only [Int.toNat_natCast] at h
      (refine rqK rfl ?_; (repeat' first | exact rfl | (refine qS ?_; constructor))); simp only [decide_eq_false_iff_not]; intro he; subst he; exact h rfl
    · simp only [Int.toNat_natCast] at h
      refine again0 (k + 1) ⟨by omega, fun i hi => ?_⟩ (by omega) (by ((first | refine qen ?_ | refine qvs ?_ | refine qeq ?_ | refine qst ?_ | refine qv ?_ | refine qc ?_ | refine qe ?_ | refine qcs ?_ | skip); (repeat' first | exact rfl | (refine qS ?_; constructor))))
      rcases Nat.lt_succ_iff_lt_or_eq.1 hi with h3 | rfl
      · exact hk.2 i h3
      · exact h
    · (refine rqK rfl ?_; (repeat' first | exact rfl | (refine qS ?_; constructor))); simp only [decide_eq_true_eq]; exact ext_getD 0 hlm fun i hi => hk.2 i (by omega)
abbrev Pr := Int × Int
abbrev pr (p : Pr) : V := .agg [int p.1, int p.2]
/-- The error of a number of items. -/
def cntE (n most : Int) : Int := fstE [unl (0 < n) 10, unl (n ≤ most) 8]
theorem C127 {n m : Int} : PFD Tryz.prog 127 [vi .i64 n, vi .i64 m] (vi .i64 (cntE n m)) := by
  refine pi1 fn127 ?_
  (repeat' first | (refine Owe.same ?_; first | refine Owe.o ?_ | refine Owe.mk ?_ ?_) | (refine Fork.same ?_; (first | refine fkD ?_ ?_ | refine fkN ?_ ?_ | refine fkM ?_ ?_) <;> intro h) | ((first | refine OpsL.same ?_ | refine OpsDL.same ?_); first | refine pK C56 rfl rfl ?_ | refine pK C55 rfl rfl ?_) | refine MvQ.stay ?_)
  (refine rqK rfl ?_; (repeat' first | exact rfl | (refine qS ?_; constructor)))
end Go.Pw

set_option linter.unusedSimpArgs false
set_option linter.unusedVariables false
namespace Go.Pw
set_option maxRecDepth 2000
open Go Go.Proofs A1 A2 A3 A4
end Go.Pw

set_option linter.unusedSimpArgs false
set_option linter.unusedVariables false
namespace Go.Pw
set_option maxRecDepth 2000
open Go Go.Proofs A1 A2 A3 A4
theorem fst0 {a : Int} {l : List Int} : fstE (a :: l) = 0 ↔ a = 0 ∧ fstE l = 0 := by
  simp only [fstE]
  constructor
  · intro h
    split at h
    · exact ⟨by assumption, h⟩
    · exact absurd h (by assumption)
  · rintro ⟨rfl, h⟩; rw [if_pos rfl]; exact h
theorem unl0 {p : Prop} [Decidable p] {e : Int} (he : e ≠ 0) : unl p e = 0 ↔ p := by rw [unl_eq]; split <;> simp_all
theorem fst_nil : fstE [] = 0 := rfl
end Go.Pw

set_option linter.unusedSimpArgs false
set_option linter.unusedVariables false
namespace Go.Pw
set_option maxRecDepth 2000
open Go Go.Proofs A1 A2 A3 A4
end Go.Pw

set_option linter.unusedSimpArgs false
set_option linter.unusedVariables false
namespace Go.Pw
set_option maxRecDepth 2000
open Go Go.Proofs A1 A2 A3 A4
theorem C134 {n : Int} : PFD Tryz.prog 134 [vi .i64 n] (vbl false) := by
  refine pi1 fn134 ?_
  (repeat' first | (refine Owe.same ?_; first | refine Owe.o ?_ | refine Owe.mk ?_ ?_) | (refine Fork.same ?_; (first | refine fkD ?_ ?_ | refine fkN ?_ ?_ | refine fkM ?_ ?_) <;> intro h) | refine MvQ.stay ?_)
  (refine rqK rfl ?_; (repeat' first | exact rfl | (refine qS ?_; constructor)))
  simp
def cmpI (a b : Int) : Int := if a < b then -1 else if b < a then 1 else 0
theorem C97 {a b : Int} : PFD Tryz.prog 97 [vi .i64 a, vi .i64 b] (vi .i64 (cmpI a b)) := by
  refine pi1 fn97 ?_
  (repeat' first | (refine Owe.same ?_; first | refine Owe.o ?_ | refine Owe.mk ?_ ?_) | (refine Fork.same ?_; (first | refine fkY ?_ | refine fkF ?_ | ((first | refine fkD ?_ ?_ | refine fkN ?_ ?_ | refine fkM ?_ ?_) <;> intro h))) | ((first | refine OpsL.same ?_ | refine OpsDL.same ?_); first | refine pK C134 rfl rfl ?_) | refine MvQ.stay ?_)
  · (refine rqK rfl ?_; (repeat' first | exact rfl | (refine qS ?_; constructor))); rw [cmpI, if_pos h]
  · rename_i h1
    (refine rqK rfl ?_; (repeat' first | exact rfl | (refine qS ?_; constructor))); rw [cmpI, if_neg h1, if_pos h]
  · rename_i h1
    (refine rqK rfl ?_; (repeat' first | exact rfl | (refine qS ?_; constructor))); rw [cmpI, if_neg h1, if_neg h]
theorem C96 {l : List Int} : l.length < 4611686018427387904 → PFD Tryz.prog 96 [.c (ints l)] (vi .i64 (fstE l)) := fun hl => by
  refine pi1 fn96 ?_
  (repeat' first | (refine Owe.same ?_; first | refine Owe.o ?_ | refine Owe.mk ?_ ?_) | (refine Fork.same ?_; (first | refine fkD ?_ ?_ | refine fkN ?_ ?_ | refine fkM ?_ ?_) <;> intro h) | refine MvQ.stay ?_)
  refine Sat.lp0 (fun k : Nat => [(8, vi .i64 k), (7, vi .i64 l.length), (6, .c (ints l)), (3, vi .i64 0)]) (fun k => k ≤ l.length ∧ fstE l = fstE (l.drop k)) (fun k => l.length - k) 0 ⟨Nat.zero_le _, rfl⟩ (by ((first | refine qen ?_ | refine qvs ?_ | refine qeq ?_ | refine qst ?_ | refine qv ?_ | refine qc ?_ | refine qe ?_ | refine qcs ?_ | skip); (repeat' first | exact rfl | (refine qS ?_; constructor)))) ?_
  intro k hk
  (repeat' first | (refine Owe.same ?_; first | refine Owe.o ?_ | refine Owe.mk ?_ ?_) | (refine Fork.same ?_; (first | refine fkD ?_ ?_ | refine fkN ?_ ?_ | refine fkM ?_ ?_) <;> intro h) | refine MvQ.stay ?_)
  · simp only [Int.toNat_natCast] at h
    (refine rqK rfl ?_; (repeat' first | exact rfl | (refine qS ?_; constructor)))
    rw [hk.2, fstE_drop l k (by omega), if_neg h, Int.toNat_natCast]
  · simp only [Int.toNat_natCast] at h
    refine again0 (k + 1) ⟨by omega, ?_⟩ (by omega) (by ((first | refine qen ?_ | refine qvs ?_ | refine qeq ?_ | refine qst ?_ | refine qv ?_ | refine qc ?_ | refine qe ?_ | refine qcs ?_ | skip); (repeat' first | exact rfl | (refine qS ?_; constructor))))
    rw [hk.2, fstE_drop l k (by omega), if_pos h]
  · (refine rqK rfl ?_; (repeat' first | exact rfl | (refine qS ?_; constructor)))
    rw [hk.2, List.drop_of_length_le (by omega)]; rfl
/-- Lists of numbers compared. -/
def cmpL : List Int → List Int → Int
  | [], [] => 0
  | [], _ :: _ => -1
  | _ :: _, [] => 1
  | x :: l, y :: m => if cmpI x y = 0 then cmpL l m else cmpI x y
theorem cmpL_drop (l m : List Int) (k : Nat) (h1 : k < l.length) (h2 : k < m.length) : cmpL (l.drop k) (m.drop k) = if cmpI (l.getD k 0) (m.getD k 0) = 0 then cmpL (l.drop (k + 1)) (m.drop (k + 1)) else cmpI (l.getD k 0) (m.getD k 0) := by
  rw [List.drop_eq_getElem_cons h1, List.drop_eq_getElem_cons h2, cmpL, List.getD_eq_getElem?_getD, List.getElem?_eq_getElem h1, List.getD_eq_getElem?_getD, List.getElem?_eq_getElem h2]
  rfl
theorem C98 {l m : List Int} : (l.length ≤ 1000000 ∧ m.length ≤ 1000000) → PFD Tryz.prog 98 [.c (ints l), .c (ints m)] (vi .i64 (cmpL l m)) := fun ⟨hl, hm⟩ => by
  refine pi1 fn98 ?_
  (repeat' first | (refine Owe.same ?_; first | refine Owe.o ?_ | refine Owe.mk ?_ ?_) | (refine Fork.same ?_; (first | refine fkD ?_ ?_ | refine fkN ?_ ?_ | refine fkM ?_ ?_) <;> intro h) | refine MvQ.stay ?_)
  refine Sat.lp0 (fun k : Nat => [(11, vi .i64 k), (10, vi .i64 l.length), (9, .c (ints l)), (0, .c (ints l)), (1, .c (ints m))]) (fun k => k ≤ l.length ∧ k ≤ m.length ∧ cmpL l m = cmpL (l.drop k) (m.drop k)) (fun k => l.length - k) 0 ⟨Nat.zero_le _, Nat.zero_le _, rfl⟩ (by ((first | refine qen ?_ | refine qvs ?_ | refine qeq ?_ | refine qst ?_ | refine qv ?_ | refine qc ?_ | refine qe ?_ | refine qcs ?_ | skip); (repeat' first | exact rfl | (refine qS ?_; constructor)))) ?_
  intro k ⟨hk, hk2, he⟩
  (repeat' first | (refine Owe.same ?_; first | refine Owe.o ?_ | refine Owe.mk ?_ ?_) | (refine Fork.same ?_; (first | refine fkD ?_ ?_ | refine fkN ?_ ?_ | refine fkM ?_ ?_) <;> intro h) | ((first | refine OpsL.same ?_ | refine OpsDL.same ?_); first | refine pK C97 rfl rfl ?_) | refine MvQ.stay ?_)
  · (refine rqK rfl ?_; (repeat' first | exact rfl | (refine qS ?_; constructor)))
    rw [he, List.drop_of_length_le (show m.length ≤ k by omega), List.drop_eq_getElem_cons (show k < l.length by omega)]; rfl
  · have e := cmpL_drop l m k (by omega) (by omega)
    have h : ¬ cmpI (l.getD k 0) (m.getD k 0) = 0 := h
    rw [if_neg h] at e
    (refine rqK rfl ?_; (repeat' first | exact rfl | (refine qS ?_; constructor))); rw [he, e]; rfl
  · have e := cmpL_drop l m k (by omega) (by omega)
    have h : cmpI (l.getD k 0) (m.getD k 0) = 0 := h
    rw [if_pos h] at e
    exact again0 (k + 1) ⟨by omega, by omega, by rw [he, e]⟩ (by omega) (by ((first | refine qen ?_ | refine qvs ?_ | refine qeq ?_ | refine qst ?_ | refine qv ?_ | refine qc ?_ | refine qe ?_ | refine qcs ?_ | skip); (repeat' first | exact rfl | (refine qS ?_; constructor))))
  · (refine rqK rfl ?_; (repeat' first | exact rfl | (refine qS ?_; constructor)))
    rw [he, List.drop_of_length_le (show l.length ≤ k by omega), List.drop_eq_getElem_cons (show k < m.length by omega)]; rfl
  · (refine rqK rfl ?_; (repeat' first | exact rfl | (refine qS ?_; constructor)))
    rw [he, List.drop_of_length_le (show l.length ≤ k by omega), List.drop_of_length_le (show m.length ≤ k by omega)]; rfl
theorem bit_test {b i : Nat} (hb : b < 2 ^ 63) (hi : i < 64) : decide (IntKind.u64.wrap ((BitVec.ofInt IntKind.u64.bits ((b : Int).fdiv (2 ^ min (Int.toNat (i : Int)) IntKind.u64.bits)) &&& BitVec.ofInt IntKind.u64.bits 1).toNat : Nat) = 1) = b.testBit i := by
  have hbits : IntKind.u64.bits = 64 := rfl
  have e1 : (b : Int).fdiv (2 ^ min (Int.toNat (i : Int)) IntKind.u64.bits) = ((b / 2 ^ i : Nat) : Int) := by
    rw [hbits, Int.toNat_natCast, Nat.min_eq_left (by omega), Int.fdiv_eq_ediv_of_nonneg _ (Int.pow_nonneg (by decide))]
    norm_cast
  rw [e1, Nat.testBit_eq_decide_div_mod_eq]
  have hlt : b / 2 ^ i < 2 ^ 63 := by
    have := Nat.div_le_self b (2 ^ i)
    omega
  generalize b / 2 ^ i = q at hlt ⊢
  have e2 : (BitVec.ofInt IntKind.u64.bits (q : Int) &&& BitVec.ofInt IntKind.u64.bits 1).toNat = q % 2 := by
    rw [BitVec.toNat_and]
    have f1 : (BitVec.ofInt IntKind.u64.bits (q : Int)).toNat = q := by
      rw [BitVec.toNat_ofInt, hbits]; omega
    have f2 : (BitVec.ofInt IntKind.u64.bits 1).toNat = 1 := rfl
    rw [f1, f2, Nat.and_one_is_mod]
  rw [e2]
  have e3 : IntKind.u64.wrap ((q % 2 : Nat) : Int) = ((q % 2 : Nat) : Int) := by
    rcases (show q % 2 = 0 ∨ q % 2 = 1 by omega) with h | h <;> rw [h] <;> rfl
  rw [e3, Bool.eq_iff_iff, decide_eq_true_eq, decide_eq_true_eq]
  omega
/-- The numbers of a set, as bits say. -/
abbrev subL (n b : Nat) : List Int := fltL (fun i => b.testBit i) n
theorem subL_mem {n b : Nat} {x : Int} (h : x ∈ subL n b) : 0 ≤ x ∧ x < n := by
  simp only [subL, fltL, List.mem_map, List.mem_filter, List.mem_range] at h
  obtain ⟨i, ⟨h1, _⟩, rfl⟩ := h
  omega
structure BSt where
  l : List Int
  p : Int
  ok : Bool
/-- The best set among those of the first bits. -/
def bestK (c : List Int → Int × Bool) (n : Nat) : Nat → BSt
  | 0 => ⟨[], 0, false⟩
  | b + 1 => let s := bestK c n b
    let t := subL n b
    if (c t).2 = true ∧ (s.ok = false ∨ fstE [cmpI (c t).1 s.p, cmpI t.length s.l.length, cmpL t s.l] < 0) then ⟨t, (c t).1, true⟩ else s
theorem bestK_len (c : List Int → Int × Bool) (n : Nat) : ∀ b, (bestK c n b).l.length ≤ n
  | 0 => by simp [bestK]
  | b + 1 => by
    have ih := bestK_len c n b
    have := fltL_len (fun i => b.testBit i) n
    simp only [bestK]
    split
    · exact this
    · exact ih
theorem C62 {g : FuncId} {rows : List (List D)} {c : List Int → Int × Bool} {n : Nat} (hg : ∀ t : List Int, t.length ≤ 1000000 → (∀ x ∈ t, 0 ≤ x ∧ x < n) → PFD Tryz.prog g (.c (ints t) :: rows.map fun r => .c (.rp r)) (.tup [vi .i64 (c t).1, vbl (c t).2])) : n ≤ 20 → PFD Tryz.prog 62 [vi .i64 n, .c (.fnR g rows)] (.tup [.c (ints (bestK c n (2 ^ n)).l), vi .i64 (bestK c n (2 ^ n)).p, vbl (bestK c n (2 ^ n)).ok]) := fun hn => by
  have hpow : 2 ^ n ≤ 2 ^ 20 := Nat.pow_le_pow_right (by decide) hn
  obtain ⟨m, hm⟩ : ∃ m, 2 ^ n = m := ⟨_, rfl⟩
  have hp : ((2 : Int) ^ n) = (m : Int) := by rw [← hm]; norm_cast
  rw [hm] at hpow ⊢
  have e1 : IntKind.u64.wrap (1 * 2 ^ min (Int.toNat (n : Int)) IntKind.u64.bits) = (m : Int) := by
    have hb : IntKind.u64.bits = 64 := rfl
    rw [hb, Int.toNat_natCast, Nat.min_eq_left (by omega), Int.one_mul, u64_wrap, hp]
    omega
  refine pi3 fn62 ?_
  (repeat' first | (refine Owe.same ?_; first | refine Owe.o ?_ | refine Owe.mk ?_ ?_) | (refine Fork.same ?_; (first | refine fkD ?_ ?_ | refine fkN ?_ ?_ | refine fkM ?_ ?_) <;> intro h) | refine MvQ.stay ?_)
  refine Sat.lp0 (fun b : Nat => [(17, vi .u64 b), (16, vi .u64 m), (0, vi .i64 n), (1, .c (.fnR g rows)), (7, .c (ints (bestK c n b).l)), (8, vi .i64 (bestK c n b).p), (9, vbl (bestK c n b).ok)]) (fun b => b ≤ m) (fun b => m - b) 0 (Nat.zero_le _) ?_ ?_
  · ((first | refine qen ?_ | refine qvs ?_ | refine qeq ?_ | refine qst ?_ | refine qv ?_ | refine qc ?_ | refine qe ?_ | refine qcs ?_ | skip); (repeat' first | exact rfl | (refine qS ?_; constructor)))
    exact e1
  · intro b hb
    refine Fork.dec (fun hlt => ?_) (fun hlt => ?_)
    · have hlt : b < m := by omega
      (repeat' first | (refine Owe.same ?_; first | refine Owe.o ?_ | refine Owe.mk ?_ ?_) | (refine Fork.same ?_; (first | refine fkD ?_ ?_ | refine fkN ?_ ?_ | refine fkM ?_ ?_) <;> intro h) | refine MvQ.stay ?_)
      refine Sat.nilS 11 3 1 (fun i => r1 (([] : List Int).getD i 0)) rfl ?_
      refine Sat.lp (fun i : Nat => ⟨[(21, vi .i64 i), (20, vi .i64 n), (10, vi .u64 b), (11, .c (.ms 0 (fltL (fun i => b.testBit i) i).length)), (17, vi .u64 b), (16, vi .u64 m), (0, vi .i64 n), (1, .c (.fnR g rows)), (7, .c (ints (bestK c n b).l)), (8, vi .i64 (bestK c n b).p), (9, vbl (bestK c n b).ok)], [(0, rowv 3 1 r1 0 (fltL (fun i => b.testBit i) i))], 1⟩)
        (fun i => i ≤ n) (fun i => n - i) 0 [0] (Nat.zero_le _) ?_ ?_
      · (refine qis ?_ ?_ <;> (repeat' first | exact rfl | (refine qS ?_; constructor)))
      · intro i hi
        have hfl := fltL_len (fun i => b.testBit i) i
        have hfs := fltL_succ (fun i => b.testBit i) i
        refine Fork.dec (fun hli => ?_) (fun hli => ?_)
        · have hli : i < n := by omega
          have ht := bit_test (b := b) (i := i) (by omega) (by omega)
          (repeat' first | (refine Owe.same ?_; first | refine Owe.o ?_ | refine Owe.mk ?_ ?_) | (refine Fork.same ?_; (first | refine fkD ?_ ?_ | refine fkN ?_ ?_ | refine fkM ?_ ?_) <;> intro h) | refine MvQ.stay ?_)
          · have h : decide _ = true := decide_eq_true h
            rw [ht] at h
            rw [if_pos h] at hfs
            refine again (i + 1) [1] hli (by omega) ?_
            (refine qis ?_ ?_ <;> (repeat' first | exact rfl | (refine qS ?_; constructor)))
            · rw [hfs]; simp
            · exact hfs
          · have h : decide _ = false := decide_eq_false h
            rw [ht] at h
            rw [if_neg (by rw [h]; decide)] at hfs
            refine again (i + 1) [0] hli (by omega) ?_
            (refine qis ?_ ?_ <;> (repeat' first | exact rfl | (refine qS ?_; constructor)))
            · rw [hfs]
            · rw [hfs]
        · have : i = n := by omega
          subst this
          (repeat' first | (refine Owe.same ?_; first | refine Owe.o ?_ | refine Owe.mk ?_ ?_) | (refine Fork.same ?_; (first | refine fkD ?_ ?_ | refine fkN ?_ ?_ | refine fkM ?_ ?_) <;> intro h) | refine MvQ.stay ?_)
          refine OpsL.frz 11 _ rfl rfl (Nat.le_refl _) ?_
          refine OpsL.frz 36 _ rfl rfl (Nat.le_refl _) ?_
          have hgt := hg (subL i b) (by have := fltL_len (fun i => b.testBit i) i; show (fltL (fun i => b.testBit i) i).length ≤ _; omega) (fun x hx => subL_mem hx)
          have hl2 := bestK_len c i b
          (repeat' first | (refine Owe.same ?_; first | refine Owe.o ?_ | refine Owe.mk ?_ ?_) | (refine Fork.same ?_; (first | refine fkD ?_ ?_ | refine fkN ?_ ?_ | refine fkM ?_ ?_) <;> intro h) | ((first | refine OpsL.same ?_ | refine OpsDL.same ?_); first | refine pR hgt rfl rfl ?_) | refine MvQ.stay ?_)
          all_goals (repeat' first | (refine Owe.same ?_; first | refine Owe.o ?_ | refine Owe.mk ?_ ?_) | (refine Fork.same ?_; (first | refine fkD ?_ ?_ | refine fkN ?_ ?_ | refine fkM ?_ ?_) <;> intro h) | ((first | refine OpsL.same ?_ | refine OpsDL.same ?_); first | refine pK C97 rfl rfl ?_ | refine pK C98 rfl rfl ?_ | refine pK C96 rfl rfl ?_) | refine MvQ.stay ?_)
          · rename_i h1
            have e : bestK c i (b + 1) = ⟨subL i b, (c (subL i b)).1, true⟩ := by
              simp only [bestK]; rw [if_pos ⟨h1, .inl (by simpa using h)⟩]
            refine again0 (b + 1) hlt (by omega) ?_
            simp only [e]
            ((first | refine qen ?_ | refine qvs ?_ | refine qeq ?_ | refine qst ?_ | refine qv ?_ | refine qc ?_ | refine qe ?_ | refine qcs ?_ | skip); (repeat' first | exact rfl | (refine qS ?_; constructor)))
            rw [u64_wrap]; omega
          · rename_i h1 h2
            have e : bestK c i (b + 1) = ⟨subL i b, (c (subL i b)).1, true⟩ := by
              simp only [bestK]; rw [if_pos ⟨h1, .inr h⟩]
            refine again0 (b + 1) hlt (by omega) ?_
            simp only [e]
            ((first | refine qen ?_ | refine qvs ?_ | refine qeq ?_ | refine qst ?_ | refine qv ?_ | refine qc ?_ | refine qe ?_ | refine qcs ?_ | skip); (repeat' first | exact rfl | (refine qS ?_; constructor)))
            rw [u64_wrap]; omega
          · rename_i h1 h2
            have e : bestK c i (b + 1) = bestK c i b := by
              simp only [bestK]; rw [if_neg]
              rintro ⟨_, h3 | h3⟩
              · rw [h3] at h2; cases h2
              · exact h h3
            refine again0 (b + 1) hlt (by omega) ?_
            simp only [e]
            ((first | refine qen ?_ | refine qvs ?_ | refine qeq ?_ | refine qst ?_ | refine qv ?_ | refine qc ?_ | refine qe ?_ | refine qcs ?_ | skip); (repeat' first | exact rfl | (refine qS ?_; constructor)))
            rw [u64_wrap]; omega
          · have e : bestK c i (b + 1) = bestK c i b := by
              simp only [bestK]; rw [if_neg]
              rintro ⟨h3, _⟩
              rw [h] at h3; cases h3
            refine again0 (b + 1) hlt (by omega) ?_
            simp only [e]
            ((first | refine qen ?_ | refine qvs ?_ | refine qeq ?_ | refine qst ?_ | refine qv ?_ | refine qc ?_ | refine qe ?_ | refine qcs ?_ | skip); (repeat' first | exact rfl | (refine qS ?_; constructor)))
            rw [u64_wrap]; omega
    · have : b = m := by omega
      subst this
      (repeat' first | (refine Owe.same ?_; first | refine Owe.o ?_ | refine Owe.mk ?_ ?_) | (refine Fork.same ?_; (first | refine fkD ?_ ?_ | refine fkN ?_ ?_ | refine fkM ?_ ?_) <;> intro h) | refine MvQ.stay ?_)
      (refine rqK rfl ?_; (repeat' first | exact rfl | (refine qS ?_; constructor)))
end Go.Pw

set_option linter.unusedSimpArgs false
set_option linter.unusedVariables false
namespace Go.Pw
set_option maxRecDepth 2000
open Go Go.Proofs A1 A2 A3 A4
abbrev Dv := Int × Int × Int
abbrev tr (d : Dv) : V := .agg [int d.1, int d.2.1, int d.2.2]
/-- A device in range. -/
abbrev dvOk (d : Dv) : Prop := (0 ≤ d.1 ∧ d.1 ≤ 20) ∧ (1 ≤ d.2.1 ∧ d.2.1 ≤ 10) ∧ 0 ≤ d.2.2 ∧ d.2.2 ≤ 10
abbrev win (d : Dv) : Int := d.2.1 + d.2.2
abbrev dist (a b : Dv) : Bool := decide (max (a.1 - b.1) (-(a.1 - b.1)) ≤ 1)
theorem C102 {a b : Dv} : (dvOk a ∧ dvOk b) → PFD Tryz.prog 102 [tr a, tr b] (vbl (dist a b)) := fun ⟨ha, hb⟩ => by
  refine pi1 fn102 ?_
  (repeat' first | (refine Owe.same ?_; first | refine Owe.o ?_ | refine Owe.mk ?_ ?_) | (refine Fork.same ?_; (first | refine fkD ?_ ?_ | refine fkN ?_ ?_ | refine fkM ?_ ?_) <;> intro h) | ((first | refine OpsL.same ?_ | refine OpsDL.same ?_); first | refine pK C136 rfl rfl ?_) | refine MvQ.stay ?_)
  (refine rqK rfl ?_; (repeat' first | exact rfl | (refine qS ?_; constructor)))
theorem C103 {d : Dv} : dvOk d → PFD Tryz.prog 103 [tr d] (vi .i64 (win d)) := fun h => by
  refine pi1 fn103 ?_
  (repeat' first | (refine Owe.same ?_; first | refine Owe.o ?_ | refine Owe.mk ?_ ?_) | (refine Fork.same ?_; (first | refine fkD ?_ ?_ | refine fkN ?_ ?_ | refine fkM ?_ ?_) <;> intro h) | refine MvQ.stay ?_)
  (refine rqK rfl ?_; (repeat' first | exact rfl | (refine qS ?_; constructor)))
def cyE (n : Int) : Int := unl (1 ≤ n ∧ n ≤ 40) 2
theorem C104 {n : Int} : PFD Tryz.prog 104 [vi .i64 n] (vi .i64 (cyE n)) := by
  refine pi1 fn104 ?_
  (repeat' first | (refine Owe.same ?_; first | refine Owe.o ?_ | refine Owe.mk ?_ ?_) | (refine Fork.same ?_; (first | refine fkD ?_ ?_ | refine fkN ?_ ?_ | refine fkM ?_ ?_) <;> intro h) | ((first | refine OpsL.same ?_ | refine OpsDL.same ?_); first | refine pK C69 rfl rfl ?_ | refine pK C56 rfl rfl ?_) | refine MvQ.stay ?_)
  (refine rqK rfl ?_; (repeat' first | exact rfl | (refine qS ?_; constructor)))
def dvE (d : Dv) : Int := unl (dvOk d) 2
theorem C129 {i : Int} {d : Dv} : PFD Tryz.prog 129 [vi .i64 i, tr d] (vi .i64 (dvE d)) := by
  refine pi1 fn129 ?_
  (repeat' first | (refine Owe.same ?_; first | refine Owe.o ?_ | refine Owe.mk ?_ ?_) | (refine Fork.same ?_; (first | refine fkD ?_ ?_ | refine fkN ?_ ?_ | refine fkM ?_ ?_) <;> intro h) | ((first | refine OpsL.same ?_ | refine OpsDL.same ?_); first | refine pK C69 rfl rfl ?_ | refine pK C56 rfl rfl ?_) | refine MvQ.stay ?_)
  all_goals ((refine rqK rfl ?_; (repeat' first | exact rfl | (refine qS ?_; constructor))); rw [dvE]; refine congrArg (fun b => unb b 2) ?_; rw [Bool.eq_iff_iff]; (try simp only [decide_eq_true_eq, Bool.false_eq_true, false_iff]); omega)
theorem C128 {g : FuncId} {f : Dv → Int} (hg : ∀ (i : Int) (x : Dv), PFD Tryz.prog g [vi .i64 i, tr x] (vi .i64 (f x))) {l : List Dv} : l.length ≤ 1000000 → PFD Tryz.prog 128 [.c (trs l), .c (.fn g [])] (.tup [vi .i64 (eachE f 0 l).1, vi .i64 (eachE f 0 l).2]) := fun hl => by
  refine pi2 fn128 ?_
  (repeat' first | (refine Owe.same ?_; first | refine Owe.o ?_ | refine Owe.mk ?_ ?_) | (refine Fork.same ?_; (first | refine fkD ?_ ?_ | refine fkN ?_ ?_ | refine fkM ?_ ?_) <;> intro h) | refine MvQ.stay ?_)
  refine Sat.lp0 (fun k : Nat => [(11, vi .i64 k), (10, vi .i64 l.length), (9, .c (trs l)), (1, .c (.fn g []))]) (fun k => k ≤ l.length ∧ eachE f 0 l = eachE f k (l.drop k)) (fun k => l.length - k) 0 ⟨Nat.zero_le _, rfl⟩ (by ((first | refine qen ?_ | refine qvs ?_ | refine qeq ?_ | refine qst ?_ | refine qv ?_ | refine qc ?_ | refine qe ?_ | refine qcs ?_ | skip); (repeat' first | exact rfl | (refine qS ?_; constructor)))) ?_
  intro k hk
  (repeat' first | (refine Owe.same ?_; first | refine Owe.o ?_ | refine Owe.mk ?_ ?_) | (refine Fork.same ?_; (first | refine fkD ?_ ?_ | refine fkN ?_ ?_ | refine fkM ?_ ?_) <;> intro h) | ((first | refine OpsL.same ?_ | refine OpsDL.same ?_); first | refine pK (hg _ _) rfl rfl ?_) | refine MvQ.stay ?_)
  · have e := eachE_drop f (0, 0, 0) l k (by omega)
    have h : ¬ f (l.getD k (0, 0, 0)) = 0 := h
    rw [if_neg h, ← hk.2] at e
    (refine rqK rfl ?_; (repeat' first | exact rfl | (refine qS ?_; constructor))) <;> rw [e] <;> rfl
  · have e := eachE_drop f (0, 0, 0) l k (by omega)
    have h : f (l.getD k (0, 0, 0)) = 0 := h
    rw [if_pos h, ← hk.2] at e
    exact again0 (k + 1) ⟨by omega, e⟩ (by omega) (by ((first | refine qen ?_ | refine qvs ?_ | refine qeq ?_ | refine qst ?_ | refine qv ?_ | refine qc ?_ | refine qe ?_ | refine qcs ?_ | skip); (repeat' first | exact rfl | (refine qS ?_; constructor))))
  · have e : eachE f 0 l = (0, 0) := by rw [hk.2, List.drop_of_length_le (by omega)]; rfl
    (refine rqK rfl ?_; (repeat' first | exact rfl | (refine qS ?_; constructor))) <;> rw [e]
/-- The error of devices, with an index. -/
def dvsE (l : List Dv) : Int × Int := if cntE l.length 5 = 0 then eachE dvE 0 l else (0, cntE l.length 5)
theorem C89 {l : List Dv} : l.length ≤ 1000000 → PFD Tryz.prog 89 [.c (trs l)] (.tup [vi .i64 (dvsE l).1, vi .i64 (dvsE l).2]) := fun hl => by
  have c1 := C128 (fun i x => C129 (i := i) (d := x)) hl
  refine pi2 fn89 ?_
  (repeat' first | (refine Owe.same ?_; first | refine Owe.o ?_ | refine Owe.mk ?_ ?_) | (refine Fork.same ?_; (first | refine fkD ?_ ?_ | refine fkN ?_ ?_ | refine fkM ?_ ?_) <;> intro h) | ((first | refine OpsL.same ?_ | refine OpsDL.same ?_); first | refine pK C127 rfl rfl ?_ | refine pK c1 rfl rfl ?_) | refine MvQ.stay ?_)
  · have h : ¬ cntE l.length 5 = 0 := h
    (refine rqK rfl ?_; (repeat' first | exact rfl | (refine qS ?_; constructor))) <;> rw [dvsE, if_neg h]
  · have h : cntE l.length 5 = 0 := h
    (refine rqK rfl ?_; (repeat' first | exact rfl | (refine qS ?_; constructor))) <;> rw [dvsE, if_pos h]
theorem C47 {l : List Dv} : l.length ≤ 1000000 → PFD Tryz.prog 47 [.c (trs l)] (vi .i64 (dvsE l).2) := fun hl => by
  refine pi1 fn47 ?_
  (repeat' first | (refine Owe.same ?_; first | refine Owe.o ?_ | refine Owe.mk ?_ ?_) | (refine Fork.same ?_; (first | refine fkD ?_ ?_ | refine fkN ?_ ?_ | refine fkM ?_ ?_) <;> intro h) | ((first | refine OpsL.same ?_ | refine OpsDL.same ?_); first | refine pK C89 rfl rfl ?_) | refine MvQ.stay ?_)
  (refine rqK rfl ?_; (repeat' first | exact rfl | (refine qS ?_; constructor)))
theorem cntE_ok {n m : Int} : cntE n m = 0 ↔ 0 < n ∧ n ≤ m := by
  rw [cntE, fst0, fst0]
  simp only [unl0 (show (10 : Int) ≠ 0 by decide), unl0 (show (8 : Int) ≠ 0 by decide), fst_nil, and_true]
/-- Valid devices. -/
structure DvOk (l : List Dv) : Prop where
  n : 0 < l.length ∧ l.length ≤ 5
  d : ∀ i, i < l.length → dvOk (l.getD i (0, 0, 0))
theorem dvsE_ok {l : List Dv} : (dvsE l).2 = 0 ↔ DvOk l := by
  constructor
  · intro h
    by_cases h0 : cntE l.length 5 = 0
    · rw [dvsE, if_pos h0, eachE_ok] at h
      have := cntE_ok.1 h0
      exact ⟨by omega, fun i hi => by have := h _ (getD_mem (0, 0, 0) hi); rwa [dvE, unl0 (by decide)] at this⟩
    · rw [dvsE, if_neg h0] at h; exact absurd h h0
  · intro h
    have h0 : cntE l.length 5 = 0 := cntE_ok.2 (by have := h.n; omega)
    rw [dvsE, if_pos h0, eachE_ok]
    intro x hx
    obtain ⟨i, hi, rfl⟩ := List.getElem_of_mem hx
    have := h.d i hi
    rw [List.getD_eq_getElem?_getD, List.getElem?_eq_getElem hi] at this
    rw [dvE, unl0 (by decide)]; exact this
abbrev dv (l : List Dv) (i : Int) : Dv := l.getD i.toNat (0, 0, 0)
/-- The devices of a set disturb each other, up to one of them. -/
def pwB (l : List Dv) (t : List Int) (k : Nat) : Bool := (List.range k).all fun i => (List.range i).all fun j => dist (dv l (t.getD i 0)) (dv l (t.getD j 0))
def wnS (l : List Dv) (t : List Int) : Nat → Int
  | 0 => 0
  | k + 1 => wnS l t k - win (dv l (t.getD k 0))
theorem pwB_succ (l : List Dv) (t : List Int) (k : Nat) : pwB l t (k + 1) = (pwB l t k && (List.range k).all fun j => dist (dv l (t.getD k 0)) (dv l (t.getD j 0))) := by
  simp [pwB, List.range_succ]
def bdC (l : List Dv) (t : List Int) : Int × Bool := if pwB l t t.length = true then (wnS l t t.length, true) else (0, false)
theorem wnS_bd {l : List Dv} {t : List Int} (hl : DvOk l) (ht : ∀ x ∈ t, 0 ≤ x ∧ x < l.length) : ∀ k, k ≤ t.length → -(20 * (k : Int)) ≤ wnS l t k ∧ wnS l t k ≤ 0
  | 0, _ => by simp [wnS]
  | k + 1, hk => by
    have ih := wnS_bd hl ht k (by omega)
    have h1 := ht _ (getD_mem 0 (show k < t.length by omega))
    have h2 := hl.d (t.getD k 0).toNat (by omega)
    simp only [wnS, win, dv]; omega
theorem pwB_le {l : List Dv} {t : List Int} {k m : Nat} (hkm : k ≤ m) (h : pwB l t m = true) : pwB l t k = true := by
  simp only [pwB, List.all_eq_true, List.mem_range] at h ⊢
  exact fun i hi j hj => h i (by omega) j hj
theorem C101 {l : List Dv} {t : List Int} (hl : DvOk l) (htl : t.length ≤ 1000000) (ht : ∀ x ∈ t, 0 ≤ x ∧ x < l.length) : PFD Tryz.prog 101 [.c (ints t), .c (.rp [.sl 3 l.length fun i => r3 (l.getD i (0, 0, 0))])] (.tup [vi .i64 (bdC l t).1, vbl (bdC l t).2]) := by
  have hn := hl.n
  refine pi2 fn101 ?_
  (repeat' first | (refine Owe.same ?_; first | refine Owe.o ?_ | refine Owe.mk ?_ ?_) | (refine Fork.same ?_; (first | refine fkD ?_ ?_ | refine fkN ?_ ?_ | refine fkM ?_ ?_) <;> intro h) | refine MvQ.stay ?_)
  refine Sat.lp0 (fun k : Nat => [(12, vi .i64 k), (11, vi .i64 t.length), (10, .c (ints t)), (0, .c (ints t)), (1, .c (.rp [.sl 3 l.length fun i => r3 (l.getD i (0, 0, 0))])), (5, vi .i64 (wnS l t k))]) (fun k => k ≤ t.length ∧ pwB l t k = true) (fun k => t.length - k) 0 ⟨Nat.zero_le _, rfl⟩ (by ((first | refine qen ?_ | refine qvs ?_ | refine qeq ?_ | refine qst ?_ | refine qv ?_ | refine qc ?_ | refine qe ?_ | refine qcs ?_ | skip); (repeat' first | exact rfl | (refine qS ?_; constructor)))) ?_
  intro k hk
  have hb := wnS_bd hl ht k hk.1
  refine Fork.dec (fun hlt => ?_) (fun hlt => ?_)
  · have hlt : k < t.length := by omega
    have h1 := ht _ (getD_mem 0 hlt)
    have h2 := hl.d (t.getD k 0).toNat (by omega)
    (repeat' first | (refine Owe.same ?_; first | refine Owe.o ?_ | refine Owe.mk ?_ ?_) | (refine Fork.same ?_; (first | refine fkD ?_ ?_ | refine fkN ?_ ?_ | refine fkM ?_ ?_) <;> intro h) | refine MvQ.stay ?_)
    refine Sat.lp0 (fun j : Nat => [(21, vi .i64 j), (20, vi .i64 k), (19, .c (.d (.sl 1 k fun i => r1 (t.getD i 0)))), (7, vi .i64 (t.getD k 0)), (12, vi .i64 k), (11, vi .i64 t.length), (10, .c (ints t)), (0, .c (ints t)), (1, .c (.rp [.sl 3 l.length fun i => r3 (l.getD i (0, 0, 0))])), (5, vi .i64 (wnS l t k))]) (fun j => j ≤ k ∧ (List.range j).all (fun j => dist (dv l (t.getD k 0)) (dv l (t.getD j 0))) = true) (fun j => k - j) 0 ⟨Nat.zero_le _, rfl⟩ (by ((first | refine qen ?_ | refine qvs ?_ | refine qeq ?_ | refine qst ?_ | refine qv ?_ | refine qc ?_ | refine qe ?_ | refine qcs ?_ | skip); (repeat' first | exact rfl | (refine qS ?_; constructor)))) ?_
    intro j hj
    refine Fork.dec (fun hlj => ?_) (fun hlj => ?_)
    · have hlj : j < k := by omega
      have h3 := ht _ (getD_mem 0 (show j < t.length by omega))
      have h4 := hl.d (t.getD j 0).toNat (by omega)
      have c97 : PFD Tryz.prog 102 _ _ := C102 (a := dv l (t.getD k 0)) (b := dv l (t.getD j 0)) ⟨h2, h4⟩
      (repeat' first | (refine Owe.same ?_; first | refine Owe.o ?_ | refine Owe.mk ?_ ?_) | (refine Fork.same ?_; (first | refine fkD ?_ ?_ | refine fkN ?_ ?_ | refine fkM ?_ ?_) <;> intro h) | ((first | refine OpsL.same ?_ | refine OpsDL.same ?_); first | refine pK c97 rfl rfl ?_) | refine MvQ.stay ?_)
      · have h : dist (dv l (t.getD k 0)) (dv l (t.getD j 0)) = false := decide_eq_false h
        have e : bdC l t = (0, false) := by
          rw [bdC, if_neg]
          intro hp
          have := pwB_le (show k + 1 ≤ t.length by omega) hp
          rw [pwB_succ, Bool.and_eq_true] at this
          have := (List.all_eq_true.1 this.2) j (List.mem_range.2 hlj)
          rw [h] at this; cases this
        (refine rqK rfl ?_; (repeat' first | exact rfl | (refine qS ?_; constructor))) <;> rw [e]
      · have h : dist (dv l (t.getD k 0)) (dv l (t.getD j 0)) = true := decide_eq_true h
        refine again0 (j + 1) ⟨hlj, ?_⟩ (by omega) (by ((first | refine qen ?_ | refine qvs ?_ | refine qeq ?_ | refine qst ?_ | refine qv ?_ | refine qc ?_ | refine qe ?_ | refine qcs ?_ | skip); (repeat' first | exact rfl | (refine qS ?_; constructor))))
        rw [List.range_succ, List.all_append, hj.2]
        simp only [List.all_cons, List.all_nil, Bool.and_true, Bool.true_and]; exact h
    · have : j = k := by omega
      subst this
      have c98 : PFD Tryz.prog 103 _ _ := C103 (d := dv l (t.getD j 0)) h2
      have hw : 1 ≤ win (dv l (t.getD j 0)) ∧ win (dv l (t.getD j 0)) ≤ 20 := by simp only [win, dv]; omega
      (repeat' first | (refine Owe.same ?_; first | refine Owe.o ?_ | refine Owe.mk ?_ ?_) | (refine Fork.same ?_; (first | refine fkD ?_ ?_ | refine fkN ?_ ?_ | refine fkM ?_ ?_) <;> intro h) | ((first | refine OpsL.same ?_ | refine OpsDL.same ?_); first | refine pK c98 rfl rfl ?_) | refine MvQ.stay ?_)
      exact again0 (j + 1) ⟨hlt, by rw [pwB_succ, hk.2, hj.2]; rfl⟩ (by omega) (by ((first | refine qen ?_ | refine qvs ?_ | refine qeq ?_ | refine qst ?_ | refine qv ?_ | refine qc ?_ | refine qe ?_ | refine qcs ?_ | skip); (repeat' first | exact rfl | (refine qS ?_; constructor))))
  · have : k = t.length := by omega
    subst this
    (repeat' first | (refine Owe.same ?_; first | refine Owe.o ?_ | refine Owe.mk ?_ ?_) | (refine Fork.same ?_; (first | refine fkD ?_ ?_ | refine fkN ?_ ?_ | refine fkM ?_ ?_) <;> intro h) | refine MvQ.stay ?_)
    have e : bdC l t = (wnS l t t.length, true) := by rw [bdC, if_pos hk.2]
    (refine rqK rfl ?_; (repeat' first | exact rfl | (refine qS ?_; constructor))) <;> rw [e]
/-- The best set for the bound. -/
abbrev bdK (l : List Dv) : BSt := bestK (bdC l) l.length (2 ^ l.length)
theorem bestK_lo {c : List Int → Int × Bool} {n : Nat} {lo : Int} (hlo : lo ≤ 0) (h : ∀ b, lo ≤ (c (subL n b)).1 ∧ (c (subL n b)).1 ≤ 0) : ∀ b, lo ≤ (bestK c n b).p ∧ (bestK c n b).p ≤ 0
  | 0 => by simp [bestK, hlo]
  | b + 1 => by
    have ih := bestK_lo hlo h b
    simp only [bestK]
    split
    · exact h b
    · exact ih
theorem bdC_bd {l : List Dv} (hl : DvOk l) (b : Nat) : -100 ≤ (bdC l (subL l.length b)).1 ∧ (bdC l (subL l.length b)).1 ≤ 0 := by
  have h1 := wnS_bd hl (t := subL l.length b) (fun x hx => subL_mem hx) _ (Nat.le_refl _)
  have h2 : (subL l.length b).length ≤ l.length := fltL_len _ _
  have h3 := hl.n
  rw [bdC]
  split
  · simp only; omega
  · simp
theorem C66 {l : List Dv} : l.length ≤ 1000000 → PFD Tryz.prog 66 [.c (trs l)] (.tup [.c (ints (if (dvsE l).2 = 0 then (bdK l).l else [])), vi .i64 (if (dvsE l).2 = 0 then -(bdK l).p else 0), vi .i64 (dvsE l).2]) := fun hl => by
  have c1 := C47 hl
  by_cases h0 : (dvsE l).2 = 0
  · have hO := dvsE_ok.1 h0
    have hn := hO.n
    have c2 := C62 (g := 101) (rows := [[.sl 3 l.length fun i => r3 (l.getD i (0, 0, 0))]]) (c := bdC l) (n := l.length) (fun t ht hx => C101 hO ht hx) (show l.length ≤ 20 by omega)
    have hp := bestK_lo (c := bdC l) (n := l.length) (lo := -100) (by decide) (fun b => bdC_bd hO b) (2 ^ l.length)
    rw [if_pos h0, if_pos h0]
    rw [h0] at c1
    refine pi3 fn66 ?_
    (repeat' first | (refine Owe.same ?_; first | refine Owe.o ?_ | refine Owe.mk ?_ ?_) | (refine Fork.same ?_; (first | refine fkD ?_ ?_ | refine fkN ?_ ?_ | refine fkM ?_ ?_) <;> intro h) | ((first | refine OpsL.same ?_ | refine OpsDL.same ?_); first | refine pK c1 rfl rfl ?_ | refine pK c2 rfl rfl ?_) | refine MvQ.stay ?_)
    · exact absurd rfl h
    · (refine rqK rfl ?_; (repeat' first | exact rfl | (refine qS ?_; constructor)))
      exact h0.symm
  · rw [if_neg h0, if_neg h0]
    refine pi3 fn66 ?_
    (repeat' first | (refine Owe.same ?_; first | refine Owe.o ?_ | refine Owe.mk ?_ ?_) | (refine Fork.same ?_; (first | refine fkD ?_ ?_ | refine fkN ?_ ?_ | refine fkM ?_ ?_) <;> intro h) | ((first | refine OpsL.same ?_ | refine OpsDL.same ?_); first | refine pK c1 rfl rfl ?_) | refine MvQ.stay ?_)
    · (refine rqK rfl ?_; (repeat' first | exact rfl | (refine qS ?_; constructor)))
    · exact absurd h h0
end Go.Pw

set_option linter.unusedSimpArgs false
set_option linter.unusedVariables false
namespace Go.Pw
set_option maxRecDepth 2000
open Go Go.Proofs A1 A2 A3 A4
theorem tmod_nn {a b : Int} (ha : 0 ≤ a) (hb : 0 < b) : a.tmod b = a % b ∧ 0 ≤ a % b ∧ a % b < b := ⟨Int.tmod_eq_emod_of_nonneg ha, Int.emod_nonneg _ (by omega), Int.emod_lt_of_pos _ hb⟩
/-- Whether two windows have a common tick. -/
def mtB (a b : Dv) (s t c : Int) : Bool := decide ((t - s + c) % c < win a) || decide ((c - (t - s + c) % c) % c < win b)
theorem C161 {a b : Dv} {s t c : Int} : ((dvOk a ∧ dvOk b) ∧ (0 < c ∧ c ≤ 40) ∧ (0 ≤ s ∧ s < c) ∧ 0 ≤ t ∧ t < c) → PFD Tryz.prog 161 [tr a, tr b, vi .i64 s, vi .i64 t, vi .i64 c] (vbl (mtB a b s t c)) := fun ⟨⟨ha, hb⟩, hc, hs, ht⟩ => by
  obtain ⟨e1, e2, e3⟩ := tmod_nn (a := t - s + c) (b := c) (by omega) hc.1
  obtain ⟨e4, e5, e6⟩ := tmod_nn (a := c - (t - s + c) % c) (b := c) (by omega) hc.1
  rw [← e1] at e2 e3 e4 e5 e6
  have e : mtB a b s t c = (decide ((t - s + c).tmod c < win a) || decide ((c - (t - s + c).tmod c).tmod c < win b)) := by rw [e4, e1]; rfl
  rw [e]
  refine pi1 fn161 ?_
  (repeat' first | (refine Owe.same ?_; first | refine Owe.o ?_ | refine Owe.mk ?_ ?_) | (refine Fork.same ?_; (first | refine fkD ?_ ?_ | refine fkN ?_ ?_ | refine fkM ?_ ?_) <;> intro h) | ((first | refine OpsL.same ?_ | refine OpsDL.same ?_); first | refine pK C103 rfl rfl ?_) | refine MvQ.stay ?_)
  · (refine rqK rfl ?_; (repeat' first | exact rfl | (refine qS ?_; constructor)))
    rw [decide_eq_true h]; rfl
  · (refine rqK rfl ?_; (repeat' first | exact rfl | (refine qS ?_; constructor)))
    rw [decide_eq_false h]; rfl
theorem C137 {l : List Int} : l.length ≤ 1000000 → PFD Tryz.prog 137 [.c (ints l)] (.c (.cl 1 l.length fun i => r1 (l.getD i 0))) := fun hl => by
  refine pi1 fn137 ?_
  (repeat' first | (refine Owe.same ?_; first | refine Owe.o ?_ | refine Owe.mk ?_ ?_) | (refine Fork.same ?_; (first | refine fkD ?_ ?_ | refine fkN ?_ ?_ | refine fkM ?_ ?_) <;> intro h) | refine MvQ.stay ?_)
  (refine rqK rfl ?_; (repeat' first | exact rfl | (refine qS ?_; constructor)))
/-- Whether two devices blind each other, or one itself. -/
def blB (l : List Dv) (st : List Int) (i k : Nat) (c : Int) : Bool :=
  if i = k then decide (c < win (l.getD i (0, 0, 0))) else dist (l.getD i (0, 0, 0)) (l.getD k (0, 0, 0)) && mtB (l.getD i (0, 0, 0)) (l.getD k (0, 0, 0)) (st.getD i 0) (st.getD k 0) c
/-- Starts within a cycle. -/
abbrev stOk (st : List Int) (c : Int) : Prop := ∀ i, i < st.length → 0 ≤ st.getD i 0 ∧ st.getD i 0 < c
theorem C138 {l : List Dv} {st : List Int} {i k : Nat} {c : Int} : (DvOk l ∧ (0 < c ∧ c ≤ 40) ∧ stOk st c ∧ (i < l.length ∧ k < l.length) ∧ i < st.length ∧ k < st.length) → PFD Tryz.prog 138 [.c (trs l), .c (ints st), vi .i64 i, vi .i64 k, vi .i64 c] (vbl (blB l st i k c)) := fun ⟨hl, hc, hs, hi, hst⟩ => by
  have h1 := hl.d i hi.1
  have h2 := hl.d k hi.2
  have h3 := hs i hst.1
  have h4 := hs k hst.2
  have c98 : PFD Tryz.prog 103 _ _ := C103 (d := l.getD i (0, 0, 0)) h1
  have c97 : PFD Tryz.prog 102 _ _ := C102 (a := l.getD i (0, 0, 0)) (b := l.getD k (0, 0, 0)) ⟨h1, h2⟩
  have c128 : PFD Tryz.prog 161 _ _ := C161 (a := l.getD i (0, 0, 0)) (b := l.getD k (0, 0, 0)) (s := st.getD i 0) (t := st.getD k 0) (c := c) ⟨⟨h1, h2⟩, hc, h3, h4⟩
  refine pi1 fn138 ?_
  (repeat' first | (refine Owe.same ?_; first | refine Owe.o ?_ | refine Owe.mk ?_ ?_) | (refine Fork.same ?_; (first | refine fkD ?_ ?_ | refine fkN ?_ ?_ | refine fkM ?_ ?_) <;> intro h) | ((first | refine OpsL.same ?_ | refine OpsDL.same ?_); first | refine pK c98 rfl rfl ?_ | refine pK c97 rfl rfl ?_ | refine pK c128 rfl rfl ?_) | refine MvQ.stay ?_)
  · have : i = k := by omega
    subst this
    (refine rqK rfl ?_; (repeat' first | exact rfl | (refine qS ?_; constructor)))
    rw [blB, if_pos rfl]
  · rename_i h5
    have h : dist (l.getD i (0, 0, 0)) (l.getD k (0, 0, 0)) = true := decide_eq_true h
    (refine rqK rfl ?_; (repeat' first | exact rfl | (refine qS ?_; constructor)))
    rw [blB, if_neg (by omega), h]; rfl
  · rename_i h5
    have h : dist (l.getD i (0, 0, 0)) (l.getD k (0, 0, 0)) = false := decide_eq_false h
    (refine rqK rfl ?_; (repeat' first | exact rfl | (refine qS ?_; constructor)))
    rw [blB, if_neg (by omega), h]; rfl
def tryL (g : Nat → Option (Option (List Int))) : Nat → Nat → Option (List Int)
  | 0, _ => none
  | r + 1, n => match g n with
    | none => tryL g r (n + 1)
    | some o => o
/-- A device that is placed blinds one before it, or itself. -/
def blk (l : List Dv) (st : List Int) (c : Int) (k : Nat) : Bool := (List.range k).any fun j => blB l st j (st.length - 1) c
def plS (l : List Dv) (c : Nat) : Nat → List Int → Option (List Int)
  | 0, st => some st
  | f + 1, st => tryL (fun n => if blk l (st ++ [(n : Int)]) c (st.length + 1) = true then none else match plS l c f (st ++ [(n : Int)]) with
    | some o => some (some o)
    | none => if st.length = 0 then some none else none) c 0
def plV : Option (List Int) → V
  | none => .c (.d (.v (.slice none 0 0)))
  | some o => .c (ints o)
theorem tryL_pos {g : Nat → Option (Option (List Int))} {P : List Int → Prop} (h : ∀ n o, g n = some (some o) → P o) : ∀ (r n : Nat) (o : List Int), tryL g r n = some o → P o
  | 0, n, o, e => by cases e
  | r + 1, n, o, e => by
    rw [tryL] at e
    split at e
    · exact tryL_pos h r (n + 1) o e
    · rename_i q hq
      subst e
      exact h n o hq
theorem plS_len {l : List Dv} {c : Nat} : ∀ (f : Nat) (st o : List Int), plS l c f st = some o → o.length = st.length + f
  | 0, st, o, h => by simp only [plS, Option.some.injEq] at h; subst h; rfl
  | f + 1, st, o, h => by
    rw [plS] at h
    refine tryL_pos (P := fun o => o.length = st.length + (f + 1)) (fun n o hn => ?_) _ _ _ h
    split at hn
    · cases hn
    · split at hn
      · rename_i o' ho
        cases hn
        have := plS_len f _ _ ho
        simp at this; omega
      · split at hn <;> cases hn
theorem stOk_app {st : List Int} {c : Int} {n : Int} (h : stOk st c) (hn : 0 ≤ n ∧ n < c) : stOk (st ++ [n]) c := fun i hi => by
  rw [List.length_append] at hi
  by_cases h1 : i < st.length
  · have := h i h1
    simpa [List.getD_eq_getElem?_getD, List.getElem?_append_left h1] using this
  · have : i = st.length := by simp at hi; omega
    subst this
    simpa [List.getD_eq_getElem?_getD] using hn
/-- What a first start leads to. -/
def plG (l : List Dv) (c f : Nat) (st : List Int) (n : Nat) : Option (Option (List Int)) := if blk l (st ++ [(n : Int)]) c (st.length + 1) = true then none else match plS l c f (st ++ [(n : Int)]) with
    | some o => some (some o)
    | none => if st.length = 0 then some none else none
theorem plS_succ (l : List Dv) (c f : Nat) (st : List Int) : plS l c (f + 1) st = tryL (plG l c f st) c 0 := rfl
theorem blk_succ (l : List Dv) (st : List Int) (c : Int) (k : Nat) : blk l st c (k + 1) = (blk l st c k || blB l st k (st.length - 1) c) := by
  simp [blk, List.range_succ]
theorem blk_le {l : List Dv} {st : List Int} {c : Int} {k m : Nat} (hkm : k < m) (h : blB l st k (st.length - 1) c = true) : blk l st c m = true := by
  rw [blk, List.any_eq_true]; exact ⟨k, List.mem_range.2 hkm, h⟩
theorem C105 {l : List Dv} {c : Nat} (hl : DvOk l) (hc : 0 < c ∧ c ≤ 40) : ∀ (f : Nat) (st : List Int), st.length + f = l.length → stOk st c → PFD Tryz.prog 105 [.c (trs l), .c (ints st), vi .i64 c] (plV (plS l c f st))
  | 0, st, hf, hs => by
    have hn := hl.n
    rw [plS, plV]
    refine pi1 fn105 ?_
    (repeat' first | (refine Owe.same ?_; first | refine Owe.o ?_ | refine Owe.mk ?_ ?_) | (refine Fork.same ?_; (first | refine fkD ?_ ?_ | refine fkN ?_ ?_ | refine fkM ?_ ?_) <;> intro h) | refine MvQ.stay ?_)
    · (refine rqK rfl ?_; (repeat' first | exact rfl | (refine qS ?_; constructor)))
    · exfalso; omega
  | f + 1, st, hf, hs => by
    have hn := hl.n
    have ih := C105 hl hc f
    rw [plS_succ]
    obtain ⟨q, hq⟩ : ∃ q, tryL (plG l c f st) c 0 = q := ⟨_, rfl⟩
    rw [hq]
    refine pi1 fn105 ?_
    (repeat' first | (refine Owe.same ?_; first | refine Owe.o ?_ | refine Owe.mk ?_ ?_) | (refine Fork.same ?_; (first | refine fkD ?_ ?_ | refine fkN ?_ ?_ | refine fkM ?_ ?_) <;> intro h) | refine MvQ.stay ?_)
    · exfalso; omega
    refine Sat.lp0 (fun n : Nat => [(20, vi .i64 n), (19, vi .i64 c), (0, .c (trs l)), (1, .c (ints st)), (2, vi .i64 c), (7, vi .i64 st.length)]) (fun n => n ≤ c ∧ q = tryL (plG l c f st) (c - n) n) (fun n => c - n) 0 ⟨Nat.zero_le _, hq.symm⟩ (by ((first | refine qen ?_ | refine qvs ?_ | refine qeq ?_ | refine qst ?_ | refine qv ?_ | refine qc ?_ | refine qe ?_ | refine qcs ?_ | skip); (repeat' first | exact rfl | (refine qS ?_; constructor)))) ?_
    intro n hn'
    have he := hn'.2
    refine Fork.dec (fun hlt => ?_) (fun hlt => ?_)
    · have hlt : n < c := by omega
      rw [show c - n = (c - (n + 1)) + 1 by omega, tryL] at he
      have hln : (st ++ [(n : Int)]).length = st.length + 1 := by simp
      have hso : stOk (st ++ [(n : Int)]) c := stOk_app hs (by omega)
      (repeat' first | (refine Owe.same ?_; first | refine Owe.o ?_ | refine Owe.mk ?_ ?_) | (refine Fork.same ?_; (first | refine fkD ?_ ?_ | refine fkN ?_ ?_ | refine fkM ?_ ?_) <;> intro h) | ((first | refine OpsL.same ?_ | refine OpsDL.same ?_); first | refine pK C137 rfl rfl ?_) | refine MvQ.stay ?_)
      refine SatL.as 9 (.c (ints (st ++ [(n : Int)]))) (QQ.sound (.dapp ⟨_, rfl, rfl⟩)) ?_
      refine SatL.as 28 (.c (ints (st ++ [(n : Int)]))) (QQ.sound (.dapp ⟨_, rfl, rfl⟩)) ?_
      refine Sat.lp0 (fun k : Nat => [(30, vi .i64 k), (29, vi .i64 (st.length + 1 : Nat)), (28, .c (ints (st ++ [(n : Int)]))), (9, .c (ints (st ++ [(n : Int)]))), (20, vi .i64 n), (19, vi .i64 c), (0, .c (trs l)), (1, .c (ints st)), (2, vi .i64 c), (7, vi .i64 st.length)]) (fun k => k ≤ st.length + 1 ∧ blk l (st ++ [(n : Int)]) c k = false) (fun k => st.length + 1 - k) 0 ⟨Nat.zero_le _, rfl⟩ (by ((first | refine qen ?_ | refine qvs ?_ | refine qeq ?_ | refine qst ?_ | refine qv ?_ | refine qc ?_ | refine qe ?_ | refine qcs ?_ | skip); (repeat' first | exact rfl | (refine qS ?_; constructor)))) ?_
      intro k hk
      refine Fork.dec (fun hlk => ?_) (fun hlk => ?_)
      · have hlk : k < st.length + 1 := by omega
        have c121 : PFD Tryz.prog 138 _ _ := C138 (l := l) (st := st ++ [(n : Int)]) (i := k) (k := st.length) (c := c) ⟨hl, by omega, hso, by omega, by omega⟩
        have hbs := blk_succ l (st ++ [(n : Int)]) c k
        rw [show (st ++ [(n : Int)]).length - 1 = st.length by omega] at hbs
        (repeat' first | (refine Owe.same ?_; first | refine Owe.o ?_ | refine Owe.mk ?_ ?_) | (refine Fork.same ?_; (first | refine fkD ?_ ?_ | refine fkN ?_ ?_ | refine fkM ?_ ?_) <;> intro h) | ((first | refine OpsL.same ?_ | refine OpsDL.same ?_); first | refine pK c121 rfl rfl ?_) | refine MvQ.stay ?_)
        · have h : blB l (st ++ [(n : Int)]) k st.length c = true := h
          have hg : plG l c f st n = none := by
            rw [plG, if_pos]
            exact blk_le hlk (by rw [show (st ++ [(n : Int)]).length - 1 = st.length by omega]; exact h)
          rw [hg] at he
          exact again0 (n + 1) ⟨hlt, he⟩ (by omega) (by ((first | refine qen ?_ | refine qvs ?_ | refine qeq ?_ | refine qst ?_ | refine qv ?_ | refine qc ?_ | refine qe ?_ | refine qcs ?_ | skip); (repeat' first | exact rfl | (refine qS ?_; constructor))))
        · have h : blB l (st ++ [(n : Int)]) k st.length c = false := h
          exact again0 (k + 1) ⟨hlk, by rw [hbs, hk.2, h]; rfl⟩ (by omega) (by ((first | refine qen ?_ | refine qvs ?_ | refine qeq ?_ | refine qst ?_ | refine qv ?_ | refine qc ?_ | refine qe ?_ | refine qcs ?_ | skip); (repeat' first | exact rfl | (refine qS ?_; constructor))))
      · have : k = st.length + 1 := by omega
        subst this
        have c100 := ih (st ++ [(n : Int)]) (by omega) hso
        rcases hp : plS l c f (st ++ [(n : Int)]) with _ | o
        · rw [hp] at c100
          have hg : plG l c f st n = if st.length = 0 then some none else none := by
            rw [plG, if_neg (by rw [hk.2]; decide), hp]
          (repeat' first | (refine Owe.same ?_; first | refine Owe.o ?_ | refine Owe.mk ?_ ?_) | (refine Fork.same ?_; (first | refine fkD ?_ ?_ | refine fkN ?_ ?_ | refine fkM ?_ ?_) <;> intro h) | ((first | refine OpsL.same ?_ | refine OpsDL.same ?_); first | refine pK c100 rfl rfl ?_) | refine MvQ.stay ?_)
          · have h : st.length = 0 := by omega
            rw [hg, if_pos h] at he
            have he : q = none := he
            subst he
            rw [plV]
            (refine rqK rfl ?_; (repeat' first | exact rfl | (refine qS ?_; constructor)))
          · rw [hg, if_neg (by omega)] at he
            exact again0 (n + 1) ⟨hlt, he⟩ (by omega) (by ((first | refine qen ?_ | refine qvs ?_ | refine qeq ?_ | refine qst ?_ | refine qv ?_ | refine qc ?_ | refine qe ?_ | refine qcs ?_ | skip); (repeat' first | exact rfl | (refine qS ?_; constructor))))
        · rw [hp] at c100
          have hlo := plS_len _ _ _ hp
          have hg : plG l c f st n = some (some o) := by
            rw [plG, if_neg (by rw [hk.2]; decide), hp]
          rw [hg] at he
          have he : q = some o := he
          subst he
          rw [plV] at c100 ⊢
          (repeat' first | (refine Owe.same ?_; first | refine Owe.o ?_ | refine Owe.mk ?_ ?_) | (refine Fork.same ?_; (first | refine fkD ?_ ?_ | refine fkN ?_ ?_ | refine fkM ?_ ?_) <;> intro h) | ((first | refine OpsL.same ?_ | refine OpsDL.same ?_); first | refine pK c100 rfl rfl ?_) | refine MvQ.stay ?_)
          (refine rqK rfl ?_; (repeat' first | exact rfl | (refine qS ?_; constructor)))
    · (repeat' first | (refine Owe.same ?_; first | refine Owe.o ?_ | refine Owe.mk ?_ ?_) | (refine Fork.same ?_; (first | refine fkD ?_ ?_ | refine fkN ?_ ?_ | refine fkM ?_ ?_) <;> intro h) | refine MvQ.stay ?_)
      have : n = c := by omega
      subst this
      rw [Nat.sub_self, tryL] at he
      subst he
      rw [plV]
      (refine rqK rfl ?_; (repeat' first | exact rfl | (refine qS ?_; constructor)))
end Go.Pw

set_option linter.unusedSimpArgs false
set_option linter.unusedVariables false
namespace Go.Pw
set_option maxRecDepth 2000
open Go Go.Proofs A1 A2 A3 A4
abbrev Tn := Int × List Int
abbrev tv (t : Tn) : V := .agg [int t.1, ints t.2]
theorem cyE_ok {n : Int} : cyE n = 0 ↔ 1 ≤ n ∧ n ≤ 40 := by rw [cyE, unl0 (by decide)]
theorem fst2 {a b : Int} : fstE [a, b] = 0 ↔ a = 0 ∧ b = 0 := by rw [fst0, fst0]; simp only [fst_nil, and_true]
/-- The first turns of a cycle. -/
def ftR (l : List Dv) (c : Int) : Tn × Int := if fstE [(dvsE l).2, cyE c] = 0 then match plS l c.toNat l.length [] with
    | none => ((0, []), 12)
    | some o => ((c, o), 0)
  else ((0, []), fstE [(dvsE l).2, cyE c])
theorem C67 {l : List Dv} {c : Int} : l.length ≤ 1000000 → PFD Tryz.prog 67 [.c (trs l), vi .i64 c] (.tup [tv (ftR l c).1, vi .i64 (ftR l c).2]) := fun hl => by
  have c95 := C47 hl
  by_cases h0 : fstE [(dvsE l).2, cyE c] = 0
  · obtain ⟨h1, h2⟩ := fst2.1 h0
    have hO := dvsE_ok.1 h1
    have hc := cyE_ok.1 h2
    have e : ((c.toNat : Nat) : Int) = c := by omega
    have c100 := C105 (c := c.toNat) hO (by omega) l.length [] (by simp) (fun i hi => by cases hi)
    rw [e] at c100
    rcases hp : plS l c.toNat l.length [] with _ | o
    · rw [hp, plV] at c100
      have hr : ftR l c = ((0, []), 12) := by rw [ftR, if_pos h0, hp]
      rw [hr]
      refine pi2 fn67 ?_
      (repeat' first | (refine Owe.same ?_; first | refine Owe.o ?_ | refine Owe.mk ?_ ?_) | (refine Fork.same ?_; (first | refine fkD ?_ ?_ | refine fkN ?_ ?_ | refine fkM ?_ ?_) <;> intro h) | ((first | refine OpsL.same ?_ | refine OpsDL.same ?_); first | refine pK c95 rfl rfl ?_ | refine pK C104 rfl rfl ?_ | refine pK C55 rfl rfl ?_ | refine pK c100 rfl rfl ?_) | refine MvQ.stay ?_)
      · exact absurd h0 h
      · (refine rqK rfl ?_; (repeat' first | exact rfl | (refine qS ?_; constructor)))
    · have hlo := plS_len _ _ _ hp
      have hn := hO.n
      rw [hp, plV] at c100
      have hr : ftR l c = ((c, o), 0) := by rw [ftR, if_pos h0, hp]
      rw [hr]
      refine pi2 fn67 ?_
      (repeat' first | (refine Owe.same ?_; first | refine Owe.o ?_ | refine Owe.mk ?_ ?_) | (refine Fork.same ?_; (first | refine fkD ?_ ?_ | refine fkN ?_ ?_ | refine fkM ?_ ?_) <;> intro h) | ((first | refine OpsL.same ?_ | refine OpsDL.same ?_); first | refine pK c95 rfl rfl ?_ | refine pK C104 rfl rfl ?_ | refine pK C55 rfl rfl ?_ | refine pK c100 rfl rfl ?_) | refine MvQ.stay ?_)
      · exact absurd h0 h
      · (refine rqK rfl ?_; (repeat' first | exact rfl | (refine qS ?_; constructor)))
  · have hr : ftR l c = ((0, []), fstE [(dvsE l).2, cyE c]) := by rw [ftR, if_neg h0]
    rw [hr]
    refine pi2 fn67 ?_
    (repeat' first | (refine Owe.same ?_; first | refine Owe.o ?_ | refine Owe.mk ?_ ?_) | (refine Fork.same ?_; (first | refine fkD ?_ ?_ | refine fkN ?_ ?_ | refine fkM ?_ ?_) <;> intro h) | ((first | refine OpsL.same ?_ | refine OpsDL.same ?_); first | refine pK c95 rfl rfl ?_ | refine pK C104 rfl rfl ?_ | refine pK C55 rfl rfl ?_) | refine MvQ.stay ?_)
    · (refine rqK rfl ?_; (repeat' first | exact rfl | (refine qS ?_; constructor)))
    · exact absurd h h0
def findT (l : List Dv) : Nat → Int → Tn × Int
  | 0, _ => ((0, []), 12)
  | r + 1, c => if (ftR l c).2 = 0 then ((ftR l c).1, 0) else findT l r (c + 1)
/-- The shortest turns. -/
def shR (l : List Dv) : Tn × Int := if (dvsE l).2 = 0 then findT l (41 + (bdK l).p).toNat (-(bdK l).p) else ((0, []), (dvsE l).2)
theorem C30 {l : List Dv} : l.length ≤ 1000000 → PFD Tryz.prog 30 [.c (trs l)] (.tup [tv (shR l).1, vi .i64 (shR l).2]) := fun hl => by
  have c73 := C66 hl
  by_cases h0 : (dvsE l).2 = 0
  · have hO := dvsE_ok.1 h0
    have hp := bestK_lo (c := bdC l) (n := l.length) (lo := -100) (by decide) (fun b => bdC_bd hO b) (2 ^ l.length)
    have hr : shR l = findT l (41 + (bdK l).p).toNat (-(bdK l).p) := by rw [shR, if_pos h0]
    rw [if_pos h0, if_pos h0, h0] at c73
    generalize (bdK l).p = p at c73 hp hr
    rw [hr]
    generalize hq : findT l (41 + p).toNat (-p) = q
    refine pi2 fn30 ?_
    (repeat' first | (refine Owe.same ?_; first | refine Owe.o ?_ | refine Owe.mk ?_ ?_) | (refine Fork.same ?_; (first | refine fkD ?_ ?_ | refine fkN ?_ ?_ | refine fkM ?_ ?_) <;> intro h) | ((first | refine OpsL.same ?_ | refine OpsDL.same ?_); first | refine pK c73 rfl rfl ?_) | refine MvQ.stay ?_)
    · exact absurd rfl h
    obtain ⟨b, hb⟩ : ∃ b : Nat, -p = b := ⟨(-p).toNat, by omega⟩
    have hb2 : b ≤ 100 := by omega
    have hq2 : findT l (41 - b) b = q := by rw [← hq, hb]; congr 1; omega
    refine Sat.lp (fun k : Nat => ⟨[(7, vi .i64 k), (2, .c (.bp 0 0)), (0, .c (trs l))], [(0, .box [int 0, .d (.v (.slice none 0 0))])], 1⟩) (fun k => k ≤ 101 ∧ b ≤ k ∧ q = findT l (41 - k) k) (fun k => 101 - k) b [0] ⟨by omega, by omega, hq2.symm⟩ ?_ ?_
    · (refine qis ?_ ?_ <;> (repeat' first | exact rfl | (refine qS ?_; constructor)))
      exact hb
    · intro k hk
      refine Fork.dec (fun hlt => ?_) (fun hlt => ?_)
      · have hlt : k < 41 := by omega
        have he := hk.2.2
        rw [show 41 - k = (41 - (k + 1)) + 1 by omega, findT] at he
        have c74 := C67 (l := l) (c := k) hl
        (repeat' first | (refine Owe.same ?_; first | refine Owe.o ?_ | refine Owe.mk ?_ ?_) | (refine Fork.same ?_; (first | refine fkD ?_ ?_ | refine fkN ?_ ?_ | refine fkM ?_ ?_) <;> intro h) | ((first | refine OpsL.same ?_ | refine OpsDL.same ?_); first | refine pK c74 rfl rfl ?_) | refine MvQ.stay ?_)
        · have h : (ftR l k).2 = 0 := h
          rw [if_pos h] at he
          subst he
          (refine rqK rfl ?_; (repeat' first | exact rfl | (refine qS ?_; constructor)))
        · have h : ¬ (ftR l k).2 = 0 := h
          rw [if_neg h] at he
          refine again (k + 1) [0] ⟨by omega, by omega, he⟩ (by omega) ?_
          (refine qis ?_ ?_ <;> (repeat' first | exact rfl | (refine qS ?_; constructor)))
      · have he := hk.2.2
        rw [show 41 - k = 0 by omega, findT] at he
        subst he
        (repeat' first | (refine Owe.same ?_; first | refine Owe.o ?_ | refine Owe.mk ?_ ?_) | (refine Fork.same ?_; (first | refine fkD ?_ ?_ | refine fkN ?_ ?_ | refine fkM ?_ ?_) <;> intro h) | refine MvQ.stay ?_)
        (refine rqK rfl ?_; (repeat' first | exact rfl | (refine qS ?_; constructor)))
  · have hr : shR l = ((0, []), (dvsE l).2) := by rw [shR, if_neg h0]
    rw [hr]
    rw [if_neg h0, if_neg h0] at c73
    refine pi2 fn30 ?_
    (repeat' first | (refine Owe.same ?_; first | refine Owe.o ?_ | refine Owe.mk ?_ ?_) | (refine Fork.same ?_; (first | refine fkD ?_ ?_ | refine fkN ?_ ?_ | refine fkM ?_ ?_) <;> intro h) | ((first | refine OpsL.same ?_ | refine OpsDL.same ?_); first | refine pK c73 rfl rfl ?_) | refine MvQ.stay ?_)
    · (refine rqK rfl ?_; (repeat' first | exact rfl | (refine qS ?_; constructor)))
    · exact absurd h h0
end Go.Pw

set_option linter.unusedSimpArgs false
set_option linter.unusedVariables false
namespace Go.Pw
set_option maxRecDepth 2000
open Go Go.Proofs A1 A2 A3 A4
end Go.Pw

set_option linter.unusedSimpArgs false
set_option linter.unusedVariables false
namespace Go.Pw
set_option maxRecDepth 2000
open Go Go.Proofs A1 A2 A3 A4
def lo (x : Dv) : Int := x.2.1
def hi (x : Dv) : Int := x.2.2
end Go.Pw

set_option linter.unusedSimpArgs false
set_option linter.unusedVariables false
namespace Go.Pw
/-- What a function says along a range of numbers, one after the other. -/
def catR {α : Type} (f : Int → List α) (a : Int) : Nat → List α
  | 0 => []
  | k + 1 => catR f a k ++ f (a + k)
section
variable {α β : Type} {f g : Int → List α}
theorem catR_add (f : Int → List α) (a : Int) (k m : Nat) : catR f a (k + m) = catR f a k ++ catR f (a + k) m := by
  induction m with
  | zero => simp [catR]
  | succ m ih =>
    rw [← Nat.add_assoc]
    show catR f a (k + m) ++ f (a + ((k + m : Nat) : Int)) = catR f a k ++ (catR f (a + k) m ++ f (a + k + m))
    rw [ih, List.append_assoc, Int.natCast_add, Int.add_assoc]
theorem catR_congr {a b : Int} {k : Nat} (h : ∀ i : Nat, i < k → f (a + i) = g (b + i)) : catR f a k = catR g b k := by
  induction k with
  | zero => rfl
  | succ k ih => rw [catR, catR, ih fun i hi => h i (by omega), h k (by omega)]
theorem catR_nil {a : Int} {k : Nat} (h : ∀ i : Nat, i < k → f (a + i) = []) : catR f a k = [] := by
  induction k with
  | zero => rfl
  | succ k ih => rw [catR, ih fun i hi => h i (by omega), h k (by omega)]; rfl
/-- Only a part of a range matters. -/
theorem catR_sub {a : Int} {k S : Nat} (h0 : 0 ≤ a) (hS : a + k ≤ S) (h : ∀ x : Int, x < a ∨ a + k ≤ x → f x = []) : catR f 0 S = catR f a k := by
  obtain ⟨n, rfl⟩ : ∃ n : Nat, a = n := ⟨a.toNat, by omega⟩
  obtain ⟨m, rfl⟩ : ∃ m : Nat, S = n + (k + m) := ⟨S - (n + k), by omega⟩
  rw [catR_add, catR_add, catR_nil fun i hi => h _ (.inl (by omega)), catR_nil (a := 0 + (n : Int) + k) fun i hi => h _ (.inr (by omega)), List.append_nil, List.nil_append, Int.zero_add]
theorem catR_len {a : Int} {c k : Nat} (h : ∀ x, (f x).length ≤ c) : (catR f a k).length ≤ k * c := by
  induction k with
  | zero => exact Nat.zero_le _
  | succ k ih => rw [catR, List.length_append, Nat.succ_mul]; have := h (a + k); omega
theorem catR_mem {a : Int} {k : Nat} {x : α} : x ∈ catR f a k ↔ ∃ i : Nat, i < k ∧ x ∈ f (a + i) := by
  induction k with
  | zero => simp [catR]
  | succ k ih =>
    rw [catR, List.mem_append, ih]
    constructor
    · rintro (⟨i, hi, h⟩ | h)
      · exact ⟨i, by omega, h⟩
      · exact ⟨k, by omega, h⟩
    · rintro ⟨i, hi, h⟩
      by_cases hk : i = k
      · subst hk; exact .inr h
      · exact .inl ⟨i, by omega, h⟩
end
abbrev Cel := Int × Int
abbrev Ry := Cel × Cel × Bool
def Ry.dx (r : Ry) : Int := r.2.1.1 - r.1.1
def Ry.dy (r : Ry) : Int := r.2.1.2 - r.1.2
def Ry.mid (r : Ry) (x y : Int) : Int := r.dx * 2 * (y - r.1.2) - r.dy * 2 * (x - r.1.1)
def sz (n : Int) : Int := max n (-n)
/-- In the rectangle of both ends a ray crosses this cell. -/
def crs (r : Ry) (x y : Int) : Bool := decide (sz (r.mid x y) < sz r.dx + sz r.dy ∨ (r.dx = 0 ∧ r.dy = 0))
def crC (r : Ry) (y x : Int) : List Cel := if crs r x y then [(x, y)] else []
def Ry.x0 (r : Ry) : Int := min r.1.1 r.2.1.1
def Ry.y0 (r : Ry) : Int := min r.1.2 r.2.1.2
def Ry.wn (r : Ry) : Nat := (sz r.dx).toNat + 1
def Ry.hn (r : Ry) : Nat := (sz r.dy).toNat + 1
def crR (r : Ry) (y : Int) : List Cel := catR (crC r y) r.x0 r.wn
/-- The cells that a ray crosses. -/
def crS (r : Ry) : List Cel := catR (crR r) r.y0 r.hn
def inG (c : Cel) (w h : Int) : Prop := (0 ≤ c.1 ∧ c.1 ≤ w - 1) ∧ 0 ≤ c.2 ∧ c.2 ≤ h - 1
instance (c : Cel) (w h : Int) : Decidable (inG c w h) := by unfold inG; infer_instance
def ryOk (r : Ry) (w h : Int) : Prop := inG r.1 w h ∧ inG r.2.1 w h
instance (r : Ry) (w h : Int) : Decidable (ryOk r w h) := by unfold ryOk; infer_instance
theorem crC_len (r : Ry) (y x : Int) : (crC r y x).length ≤ 1 := by rw [crC]; split <;> simp
theorem crR_len {r : Ry} {y : Int} : (crR r y).length ≤ r.wn := by have := catR_len (a := r.x0) (k := r.wn) (crC_len r y); rw [crR]; omega
theorem wn_le {r : Ry} {w h : Int} (ho : ryOk r w h) : (r.wn : Int) ≤ w := by
  have h1 := ho.1.1; have h2 := ho.2.1
  rw [Ry.wn, Ry.dx, sz]; omega
theorem hn_le {r : Ry} {w h : Int} (ho : ryOk r w h) : (r.hn : Int) ≤ h := by
  have h1 := ho.1.2; have h2 := ho.2.2
  rw [Ry.hn, Ry.dy, sz]; omega
theorem mem_crC {r : Ry} {x y : Int} {c : Cel} : c ∈ crC r y x ↔ crs r x y = true ∧ c = (x, y) := by
  rw [crC]; split <;> simp_all
/-- Every cell that is crossed lies in the rectangle of both ends. -/
theorem crS_mem {r : Ry} {c : Cel} : c ∈ crS r ↔ crs r c.1 c.2 = true ∧ (r.x0 ≤ c.1 ∧ c.1 < r.x0 + r.wn) ∧ r.y0 ≤ c.2 ∧ c.2 < r.y0 + r.hn := by
  rw [crS, catR_mem]
  constructor
  · rintro ⟨i, hi, h⟩
    obtain ⟨j, hj, h1⟩ := catR_mem.1 h
    obtain ⟨h2, rfl⟩ := mem_crC.1 h1
    exact ⟨h2, ⟨by simp only; omega, by simp only; omega⟩, by simp only; omega, by simp only; omega⟩
  · rintro ⟨h, hx, hy⟩
    refine ⟨(c.2 - r.y0).toNat, by omega, catR_mem.2 ⟨(c.1 - r.x0).toNat, by omega, mem_crC.2 ?_⟩⟩
    have e1 : r.x0 + ((c.1 - r.x0).toNat : Int) = c.1 := by omega
    have e2 : r.y0 + ((c.2 - r.y0).toNat : Int) = c.2 := by omega
    rw [e1, e2]; exact ⟨h, rfl⟩
theorem crS_len {r : Ry} : (crS r).length ≤ r.hn * r.wn := catR_len fun _ => crR_len
end Go.Pw

set_option linter.unusedSimpArgs false
set_option linter.unusedVariables false
namespace Go.Pw
set_option maxRecDepth 2000
open Go Go.Proofs A1 A2 A3 A4
abbrev r5 (r : Ry) : List D := [dI r.1.1, dI r.1.2, dI r.2.1.1, dI r.2.1.2, .v (.bool r.2.2)]
abbrev ryd : Ry := ((0, 0), (0, 0), false)
abbrev rys (l : List Ry) : C := slv 5 r5 ryd l
abbrev ryv (r : Ry) : V := .agg [int r.1.1, int r.1.2, int r.2.1.1, int r.2.1.2, .d (.v (.bool r.2.2))]
theorem C146 {c : Pr} {w g : Int} : ((-1000000 ≤ w ∧ w ≤ 1000000) ∧ -1000000 ≤ g ∧ g ≤ 1000000) → PFD Tryz.prog 146 [pr c, vi .i64 w, vi .i64 g] (vbl (decide (inG c w g))) := fun ⟨hw, hh⟩ => by
  refine pi1 fn146 ?_
  (repeat' first | (refine Owe.same ?_; first | refine Owe.o ?_ | refine Owe.mk ?_ ?_) | (refine Fork.same ?_; (first | refine fkD ?_ ?_ | refine fkN ?_ ?_ | refine fkM ?_ ?_) <;> intro h) | ((first | refine OpsL.same ?_ | refine OpsDL.same ?_); first | refine pK C69 rfl rfl ?_) | refine MvQ.stay ?_)
  · (refine rqK rfl ?_; (repeat' first | exact rfl | (refine qS ?_; constructor)))
    exact decide_eq_decide.2 ⟨fun hh => ⟨h, hh⟩, fun hh => hh.2⟩
  · (refine rqK rfl ?_; (repeat' first | exact rfl | (refine qS ?_; constructor)))
    rw [decide_eq_false]; exact fun hh => h hh.1
theorem C113 {r : Ry} {w g : Int} : ((-1000000 ≤ w ∧ w ≤ 1000000) ∧ -1000000 ≤ g ∧ g ≤ 1000000) → PFD Tryz.prog 113 [ryv r, vi .i64 w, vi .i64 g] (vi .i64 (unl (ryOk r w g) 6)) := fun ⟨hw, hh⟩ => by
  refine pi1 fn113 ?_
  (repeat' first | (refine Owe.same ?_; first | refine Owe.o ?_ | refine Owe.mk ?_ ?_) | (refine Fork.same ?_; (first | refine fkD ?_ ?_ | refine fkN ?_ ?_ | refine fkM ?_ ?_) <;> intro h) | ((first | refine OpsL.same ?_ | refine OpsDL.same ?_); first | refine pK C146 rfl rfl ?_ | refine pK C56 rfl rfl ?_) | refine MvQ.stay ?_)
  · (refine rqK rfl ?_; (repeat' first | exact rfl | (refine qS ?_; constructor)))
    rw [unl]; congr 1; exact decide_eq_decide.2 ⟨fun hh => ⟨h, hh⟩, fun hh => hh.2⟩
  · (refine rqK rfl ?_; (repeat' first | exact rfl | (refine qS ?_; constructor)))
    rw [unl, decide_eq_false]; exact fun hh => h hh.1
theorem mulb {a b : Int} (ha : -12 ≤ a ∧ a ≤ 12) (hb : -12 ≤ b ∧ b ≤ 12) : -288 ≤ a * 2 * b ∧ a * 2 * b ≤ 288 := by
  have h1 : (a * 2) * b ≤ 288 ∧ -288 ≤ (a * 2) * b := by
    have e : (a * 2) * b = 2 * (a * b) := by rw [Int.mul_comm a 2, Int.mul_assoc]
    rw [e]
    have : a.natAbs * b.natAbs ≤ 12 * 12 := Nat.mul_le_mul (by omega) (by omega)
    rw [← Int.natAbs_mul] at this
    omega
  omega
theorem C116 {r : Ry} : ryOk r 12 12 → PFD Tryz.prog 116 [ryv r] (.c (prs (crS r))) := fun hO => by
  obtain ⟨⟨fx, fy⟩, ⟨tx, ty⟩, b⟩ := r
  obtain ⟨⟨hx1, hy1⟩, hx2, hy2⟩ := hO
  simp only at hx1 hy1 hx2 hy2
  have hwn : ((Ry.wn ((fx, fy), (tx, ty), b) : Nat) : Int) = max fx tx - min fx tx + 1 := by simp only [Ry.wn, Ry.dx, sz]; omega
  have hhn : ((Ry.hn ((fx, fy), (tx, ty), b) : Nat) : Int) = max fy ty - min fy ty + 1 := by simp only [Ry.hn, Ry.dy, sz]; omega
  obtain ⟨S, hS⟩ : ∃ S, S = crS ((fx, fy), (tx, ty), b) := ⟨_, rfl⟩
  rw [← hS]
  refine pi1 fn116 ?_
  (repeat' first | (refine Owe.same ?_; first | refine Owe.o ?_ | refine Owe.mk ?_ ?_) | (refine Fork.same ?_; (first | refine fkD ?_ ?_ | refine fkN ?_ ?_ | refine fkM ?_ ?_) <;> intro h) | refine MvQ.stay ?_)
  refine Sat.nilS 5 49 2 (fun i => r2 (([] : List Pr).getD i (0, 0))) rfl ?_
  refine Sat.lp (fun s : Int × List Pr => ⟨[(6, vi .i64 s.1), (3, vi .i64 (tx - fx)), (4, vi .i64 (ty - fy)), (1, .c (.rp [dI fx, dI fy, dI tx, dI ty, .v (.bool b)])), (5, .c (.ms 0 s.2.length))], [(0, rowv 49 2 r2 (0, 0) s.2)], 1⟩)
    (fun s => (min fy ty ≤ s.1 ∧ s.1 ≤ max fy ty + 1) ∧ s.2 = catR (crR ((fx, fy), (tx, ty), b)) (min fy ty) (s.1 - min fy ty).toNat) (fun s => (max fy ty + 1 - s.1).toNat) (min fy ty, []) [16] ?_ ?_ ?_
  · refine ⟨by simp only; omega, ?_⟩
    simp only [Int.sub_self]; rfl
  · (refine qis ?_ ?_ <;> (repeat' first | exact rfl | (refine qS ?_; constructor)))
  · intro ⟨y, out⟩ hk
    simp only at hk ⊢
    have hol : out.length ≤ (y - min fy ty).toNat * Ry.wn ((fx, fy), (tx, ty), b) := by rw [hk.2]; exact catR_len fun _ => crR_len
    have hol2 : (y - min fy ty).toNat * Ry.wn ((fx, fy), (tx, ty), b) ≤ 12 * 12 := Nat.mul_le_mul (by omega) (by omega)
    (repeat' first | (refine Owe.same ?_; first | refine Owe.o ?_ | refine Owe.mk ?_ ?_) | (refine Fork.same ?_; (first | refine fkD ?_ ?_ | refine fkN ?_ ?_ | refine fkM ?_ ?_) <;> intro h) | refine MvQ.stay ?_)
    · refine Sat.lp (fun s : Int × List Pr => ⟨[(7, vi .i64 s.1), (6, vi .i64 y), (3, vi .i64 (tx - fx)), (4, vi .i64 (ty - fy)), (1, .c (.rp [dI fx, dI fy, dI tx, dI ty, .v (.bool b)])), (5, .c (.ms 0 s.2.length))], [(0, rowv 49 2 r2 (0, 0) s.2)], 1⟩)
        (fun s => (min fx tx ≤ s.1 ∧ s.1 ≤ max fx tx + 1) ∧ s.2 = out ++ catR (crC ((fx, fy), (tx, ty), b) y) (min fx tx) (s.1 - min fx tx).toNat) (fun s => (max fx tx + 1 - s.1).toNat) (min fx tx, out) [0] ?_ ?_ ?_
      · refine ⟨by simp only; omega, ?_⟩
        simp only [Int.sub_self]; exact (List.append_nil _).symm
      · (refine qis ?_ ?_ <;> (repeat' first | exact rfl | (refine qS ?_; constructor)))
      · intro ⟨x, o⟩ hj
        simp only at hj ⊢
        have hjl := catR_len (f := crC ((fx, fy), (tx, ty), b) y) (a := min fx tx) (k := (x - min fx tx).toNat) (crC_len _ _)
        have hjl : o.length ≤ 200 := by rw [hj.2, List.length_append]; omega
        have hs : catR (crC ((fx, fy), (tx, ty), b) y) (min fx tx) (x + 1 - min fx tx).toNat = catR (crC ((fx, fy), (tx, ty), b) y) (min fx tx) (x - min fx tx).toNat ++ crC ((fx, fy), (tx, ty), b) y x := by
          have e : (x + 1 - min fx tx).toNat = (x - min fx tx).toNat + 1 := by omega
          rw [e, catR]; congr 2; omega
        have m1 := mulb (a := tx - fx) (b := y - fy) (by omega) (by omega)
        have m2 := mulb (a := ty - fy) (b := x - fx) (by omega) (by omega)
        (repeat' first | (refine Owe.same ?_; first | refine Owe.o ?_ | refine Owe.mk ?_ ?_) | (refine Fork.same ?_; (first | refine fkD ?_ ?_ | refine fkN ?_ ?_ | refine fkM ?_ ?_) <;> intro h) | ((first | refine OpsL.same ?_ | refine OpsDL.same ?_); first | refine pK C136 rfl rfl ?_) | refine MvQ.stay ?_)
        · have hc : crC ((fx, fy), (tx, ty), b) y x = [(x, y)] := by
            rw [crC, if_pos]; rw [crs]; exact decide_eq_true (.inl h)
          rw [hc] at hs
          refine again (x + 1, o ++ [(x, y)]) [1] ⟨by simp only; omega, by simp only; rw [hs, hj.2, List.append_assoc]⟩ (by simp only; omega) ?_
          (refine qis ?_ ?_ <;> (repeat' first | exact rfl | (refine qS ?_; constructor)))
          simp
        · rename_i h0 h1 h2
          have hc : crC ((fx, fy), (tx, ty), b) y x = [(x, y)] := by
            rw [crC, if_pos]; rw [crs]; exact decide_eq_true (.inr ⟨h2, h⟩)
          rw [hc] at hs
          refine again (x + 1, o ++ [(x, y)]) [1] ⟨by simp only; omega, by simp only; rw [hs, hj.2, List.append_assoc]⟩ (by simp only; omega) ?_
          (refine qis ?_ ?_ <;> (repeat' first | exact rfl | (refine qS ?_; constructor)))
          simp
        · rename_i h0 h1 h2
          have hc : crC ((fx, fy), (tx, ty), b) y x = [] := by
            rw [crC, if_neg]; rw [crs]; exact fun hh => (of_decide_eq_true hh).elim h1 fun hq => h hq.2
          rw [hc, List.append_nil] at hs
          refine again (x + 1, o) [0] ⟨by simp only; omega, by simp only; rw [hs, hj.2]⟩ (by simp only; omega) ?_
          (refine qis ?_ ?_ <;> (repeat' first | exact rfl | (refine qS ?_; constructor)))
        · rename_i h0 h1
          have hc : crC ((fx, fy), (tx, ty), b) y x = [] := by
            rw [crC, if_neg]; rw [crs]; exact fun hh => (of_decide_eq_true hh).elim h1 fun hq => h hq.1
          rw [hc, List.append_nil] at hs
          refine again (x + 1, o) [0] ⟨by simp only; omega, by simp only; rw [hs, hj.2]⟩ (by simp only; omega) ?_
          (refine qis ?_ ?_ <;> (repeat' first | exact rfl | (refine qS ?_; constructor)))
        · have e : (x - min fx tx).toNat = Ry.wn ((fx, fy), (tx, ty), b) := by omega
          have e2 : (y + 1 - min fy ty).toNat = (y - min fy ty).toNat + 1 := by omega
          refine again (y + 1, o) [0] ⟨by simp only; omega, ?_⟩ (by simp only; omega) ?_
          · simp only
            rw [e2, catR, hj.2, hk.2, e]
            congr 1
            have : min fy ty + ((y - min fy ty).toNat : Int) = y := by omega
            rw [this]; rfl
          · (refine qis ?_ ?_ <;> (repeat' first | exact rfl | (refine qS ?_; constructor)))
    · have e : out = S := by
        rw [hk.2, hS, crS]
        have : (y - min fy ty).toNat = Ry.hn ((fx, fy), (tx, ty), b) := by omega
        rw [this]; rfl
      subst e
      (repeat' first | (refine Owe.same ?_; first | refine Owe.o ?_ | refine Owe.mk ?_ ?_) | (refine Fork.same ?_; (first | refine fkD ?_ ?_ | refine fkN ?_ ?_ | refine fkM ?_ ?_) <;> intro h) | refine MvQ.stay ?_)
      refine rqF 0 _ rfl rfl rfl ?_; (repeat' first | exact rfl | (refine qS ?_; constructor))
end Go.Pw

set_option linter.unusedSimpArgs false
set_option linter.unusedVariables false
namespace Go.Pw
set_option maxRecDepth 2000
open Go Go.Proofs A1 A2 A3 A4
abbrev Sc := Int × Int × List Ry
abbrev rysD (l : List Ry) : D := .sl 5 l.length fun i => r5 (l.getD i ryd)
abbrev scD (s : Sc) : List D := [dI s.1, dI s.2.1, rysD s.2.2]
abbrev scv (s : Sc) : V := .agg [int s.1, int s.2.1, rys s.2.2]
theorem C145 {n : Int} : PFD Tryz.prog 145 [vi .i64 n] (vbl (decide (1 ≤ n ∧ n ≤ 12))) := by
  refine pi1 fn145 ?_
  (repeat' first | (refine Owe.same ?_; first | refine Owe.o ?_ | refine Owe.mk ?_ ?_) | (refine Fork.same ?_; (first | refine fkD ?_ ?_ | refine fkN ?_ ?_ | refine fkM ?_ ?_) <;> intro h) | ((first | refine OpsL.same ?_ | refine OpsDL.same ?_); first | refine pK C69 rfl rfl ?_) | refine MvQ.stay ?_)
  (refine rqK rfl ?_; (repeat' first | exact rfl | (refine qS ?_; constructor)))
/-- The error of columns and rows, and of the number of rays. -/
def gridE (w h : Int) (n : Int) : Int := fstE [unl ((1 ≤ w ∧ w ≤ 12) ∧ 1 ≤ h ∧ h ≤ 12) 2, unl (n ≤ 10) 8]
theorem unl_of {p : Prop} [Decidable p] {b : Bool} {e : Int} (h : b = decide p) : unb b e = unl p e := by subst h; rfl
theorem C110 {w g n : Int} : PFD Tryz.prog 110 [vi .i64 w, vi .i64 g, vi .i64 n] (vi .i64 (gridE w g n)) := by
  refine pi1 fn110 ?_
  (repeat' first | (refine Owe.same ?_; first | refine Owe.o ?_ | refine Owe.mk ?_ ?_) | (refine Fork.same ?_; (first | refine fkD ?_ ?_ | refine fkN ?_ ?_ | refine fkM ?_ ?_) <;> intro h) | ((first | refine OpsL.same ?_ | refine OpsDL.same ?_); first | refine pK C145 rfl rfl ?_ | refine pK C56 rfl rfl ?_ | refine pK C55 rfl rfl ?_) | refine MvQ.stay ?_)
  · (refine rqK rfl ?_; (repeat' first | exact rfl | (refine qS ?_; constructor)))
    rw [gridE, ← unl_of (decide_eq_decide.2 ⟨fun hh => ⟨h, hh⟩, fun hh => hh.2⟩)]
  · (refine rqK rfl ?_; (repeat' first | exact rfl | (refine qS ?_; constructor)))
    rw [gridE, ← unl_of (decide_eq_false fun hh => h hh.1).symm]
theorem C132 {i : Int} {r : Ry} {w g : Int} {d : D} : ((-1000000 ≤ w ∧ w ≤ 1000000) ∧ -1000000 ≤ g ∧ g ≤ 1000000) → PFD Tryz.prog 132 [vi .i64 i, ryv r, .c (.rp [dI w, dI g, d])] (vi .i64 (unl (ryOk r w g) 6)) := fun hw => by
  refine pi1 fn132 ?_
  (repeat' first | (refine Owe.same ?_; first | refine Owe.o ?_ | refine Owe.mk ?_ ?_) | (refine Fork.same ?_; (first | refine fkD ?_ ?_ | refine fkN ?_ ?_ | refine fkM ?_ ?_) <;> intro h) | ((first | refine OpsL.same ?_ | refine OpsDL.same ?_); first | refine pK C113 rfl rfl ?_) | refine MvQ.stay ?_)
  (refine rqK rfl ?_; (repeat' first | exact rfl | (refine qS ?_; constructor)))
theorem C131 {g : FuncId} {rows : List (List D)} {f : Ry → Int} (hg : ∀ (i : Int) (x : Ry), PFD Tryz.prog g (vi .i64 i :: ryv x :: rows.map fun r => .c (.rp r)) (vi .i64 (f x))) {l : List Ry} : l.length ≤ 1000000 → PFD Tryz.prog 131 [.c (rys l), .c (.fnR g rows)] (.tup [vi .i64 (eachE f 0 l).1, vi .i64 (eachE f 0 l).2]) := fun hl => by
  refine pi2 fn131 ?_
  (repeat' first | (refine Owe.same ?_; first | refine Owe.o ?_ | refine Owe.mk ?_ ?_) | (refine Fork.same ?_; (first | refine fkD ?_ ?_ | refine fkN ?_ ?_ | refine fkM ?_ ?_) <;> intro h) | refine MvQ.stay ?_)
  refine Sat.lp0 (fun k : Nat => [(11, vi .i64 k), (10, vi .i64 l.length), (9, .c (rys l)), (1, .c (.fnR g rows))]) (fun k => k ≤ l.length ∧ eachE f 0 l = eachE f k (l.drop k)) (fun k => l.length - k) 0 ⟨Nat.zero_le _, rfl⟩ (by ((first | refine qen ?_ | refine qvs ?_ | refine qeq ?_ | refine qst ?_ | refine qv ?_ | refine qc ?_ | refine qe ?_ | refine qcs ?_ | skip); (repeat' first | exact rfl | (refine qS ?_; constructor)))) ?_
  intro k hk
  (repeat' first | (refine Owe.same ?_; first | refine Owe.o ?_ | refine Owe.mk ?_ ?_) | (refine Fork.same ?_; (first | refine fkD ?_ ?_ | refine fkN ?_ ?_ | refine fkM ?_ ?_) <;> intro h) | ((first | refine OpsL.same ?_ | refine OpsDL.same ?_); first | refine pR (hg _ (l.getD k ryd)) rfl rfl ?_) | refine MvQ.stay ?_)
  · have e := eachE_drop f ryd l k (by omega)
    have h : ¬ f (l.getD k ryd) = 0 := h
    rw [if_neg h, ← hk.2] at e
    (refine rqK rfl ?_; (repeat' first | exact rfl | (refine qS ?_; constructor))) <;> rw [e]
  · have e := eachE_drop f ryd l k (by omega)
    have h : f (l.getD k ryd) = 0 := h
    rw [if_pos h, ← hk.2] at e
    exact again0 (k + 1) ⟨by omega, e⟩ (by omega) (by ((first | refine qen ?_ | refine qvs ?_ | refine qeq ?_ | refine qst ?_ | refine qv ?_ | refine qc ?_ | refine qe ?_ | refine qcs ?_ | skip); (repeat' first | exact rfl | (refine qS ?_; constructor))))
  · have e : eachE f 0 l = (0, 0) := by rw [hk.2, List.drop_of_length_le (by omega)]; rfl
    (refine rqK rfl ?_; (repeat' first | exact rfl | (refine qS ?_; constructor))) <;> rw [e]
/-- The error of a scene, with the index of a ray. -/
def scE (s : Sc) : Int × Int := if gridE s.1 s.2.1 s.2.2.length = 0 then eachE (fun r => unl (ryOk r s.1 s.2.1) 6) 0 s.2.2 else (0, gridE s.1 s.2.1 s.2.2.length)
theorem gridE_ok {w h n : Int} : gridE w h n = 0 ↔ ((1 ≤ w ∧ w ≤ 12) ∧ 1 ≤ h ∧ h ≤ 12) ∧ n ≤ 10 := by
  rw [gridE, fst2, unl0 (by decide), unl0 (by decide)]
theorem C91 {s : Sc} : s.2.2.length ≤ 1000000 → PFD Tryz.prog 91 [scv s] (.tup [vi .i64 (scE s).1, vi .i64 (scE s).2]) := fun hl => by
  obtain ⟨w, g, l⟩ := s
  refine pi2 fn91 ?_
  (repeat' first | (refine Owe.same ?_; first | refine Owe.o ?_ | refine Owe.mk ?_ ?_) | (refine Fork.same ?_; (first | refine fkD ?_ ?_ | refine fkN ?_ ?_ | refine fkM ?_ ?_) <;> intro h) | ((first | refine OpsL.same ?_ | refine OpsDL.same ?_); first | refine pK C110 rfl rfl ?_) | refine MvQ.stay ?_)
  · have h : ¬ gridE w g l.length = 0 := h
    (refine rqK rfl ?_; (repeat' first | exact rfl | (refine qS ?_; constructor))) <;> rw [scE, if_neg h]
  · have h : gridE w g l.length = 0 := h
    have hr : scE (w, g, l) = eachE (fun r => unl (ryOk r w g) 6) 0 l := by rw [scE, if_pos h]
    rw [hr]
    have hb := gridE_ok.1 h
    have c1 := C131 (g := 132) (rows := [scD (w, g, l)]) (f := fun r => unl (ryOk r w g) 6) (fun i x => C132 (w := w) (g := g) (d := rysD l) ⟨by omega, by omega⟩) (l := l) hl
    (repeat' first | (refine Owe.same ?_; first | refine Owe.o ?_ | refine Owe.mk ?_ ?_) | (refine Fork.same ?_; (first | refine fkD ?_ ?_ | refine fkN ?_ ?_ | refine fkM ?_ ?_) <;> intro h) | ((first | refine OpsL.same ?_ | refine OpsDL.same ?_); first | refine pK c1 rfl rfl ?_) | refine MvQ.stay ?_)
    (refine rqK rfl ?_; (repeat' first | exact rfl | (refine qS ?_; constructor)))
theorem C49 {s : Sc} : s.2.2.length ≤ 1000000 → PFD Tryz.prog 49 [scv s] (vi .i64 (scE s).2) := fun hl => by
  refine pi1 fn49 ?_
  (repeat' first | (refine Owe.same ?_; first | refine Owe.o ?_ | refine Owe.mk ?_ ?_) | (refine Fork.same ?_; (first | refine fkD ?_ ?_ | refine fkN ?_ ?_ | refine fkM ?_ ?_) <;> intro h) | ((first | refine OpsL.same ?_ | refine OpsDL.same ?_); first | refine pK (C91 hl) rfl rfl ?_) | refine MvQ.stay ?_)
  (refine rqK rfl ?_; (repeat' first | exact rfl | (refine qS ?_; constructor)))
theorem C118 {c : Pr} {w : Int} : ((0 ≤ c.2 ∧ c.2 ≤ 1000) ∧ (0 ≤ c.1 ∧ c.1 ≤ 1000) ∧ 0 ≤ w ∧ w ≤ 1000) → PFD Tryz.prog 118 [pr c, vi .i64 w] (vi .i64 (c.2 * w + c.1)) := fun ⟨h1, h2, h3⟩ => by
  have m : 0 ≤ c.2 * w ∧ c.2 * w ≤ 1000 * 1000 := ⟨Int.mul_nonneg h1.1 h3.1, Int.mul_le_mul h1.2 h3.2 h3.1 (by decide)⟩
  refine pi1 fn118 ?_
  (repeat' first | (refine Owe.same ?_; first | refine Owe.o ?_ | refine Owe.mk ?_ ?_) | (refine Fork.same ?_; (first | refine fkD ?_ ?_ | refine fkN ?_ ?_ | refine fkM ?_ ?_) <;> intro h) | refine MvQ.stay ?_)
  (refine rqK rfl ?_; (repeat' first | exact rfl | (refine qS ?_; constructor)))
def idxE (n : Int) : Int → List Int → Int
  | _, [] => -1
  | k, x :: l => if n = x then k else idxE n (k + 1) l
theorem idxE_drop (n : Int) (l : List Int) (k : Nat) (h : k < l.length) : idxE n k (l.drop k) = if n = l.getD k 0 then (k : Int) else idxE n ((k + 1 : Nat) : Int) (l.drop (k + 1)) := by
  have e : l.drop k = l.getD k 0 :: l.drop (k + 1) := by
    rw [List.getD_eq_getElem?_getD, List.getElem?_eq_getElem h]; exact List.drop_eq_getElem_cons h
  rw [e, idxE]; rfl
theorem idxE_ge (n : Int) : ∀ (l : List Int) (k : Int), 0 ≤ k → (0 ≤ idxE n k l ↔ n ∈ l)
  | [], k, _ => by simp [idxE]
  | x :: l, k, hk => by
    rw [idxE]
    split
    · rename_i h; subst h; simp [hk]
    · rename_i h; rw [idxE_ge n l (k + 1) (by omega), List.mem_cons]; simp [h]
theorem C99 {l : List Int} {n : Int} : l.length ≤ 1000000 → PFD Tryz.prog 99 [.c (ints l), vi .i64 n] (vi .i64 (idxE n 0 l)) := fun hl => by
  refine pi1 fn99 ?_
  (repeat' first | (refine Owe.same ?_; first | refine Owe.o ?_ | refine Owe.mk ?_ ?_) | (refine Fork.same ?_; (first | refine fkD ?_ ?_ | refine fkN ?_ ?_ | refine fkM ?_ ?_) <;> intro h) | refine MvQ.stay ?_)
  refine Sat.lp0 (fun k : Nat => [(8, vi .i64 k), (7, vi .i64 l.length), (0, .c (ints l)), (1, vi .i64 n)]) (fun k => k ≤ l.length ∧ idxE n 0 l = idxE n k (l.drop k)) (fun k => l.length - k) 0 ⟨Nat.zero_le _, rfl⟩ (by ((first | refine qen ?_ | refine qvs ?_ | refine qeq ?_ | refine qst ?_ | refine qv ?_ | refine qc ?_ | refine qe ?_ | refine qcs ?_ | skip); (repeat' first | exact rfl | (refine qS ?_; constructor)))) ?_
  intro k hk
  (repeat' first | (refine Owe.same ?_; first | refine Owe.o ?_ | refine Owe.mk ?_ ?_) | (refine Fork.same ?_; (first | refine fkD ?_ ?_ | refine fkN ?_ ?_ | refine fkM ?_ ?_) <;> intro h) | refine MvQ.stay ?_)
  · have e := idxE_drop n l k (by omega)
    have h : n = l.getD k 0 := h
    rw [if_pos h, ← hk.2] at e
    (refine rqK rfl ?_; (repeat' first | exact rfl | (refine qS ?_; constructor))); rw [e]
  · have e := idxE_drop n l k (by omega)
    have h : ¬ n = l.getD k 0 := h
    rw [if_neg h, ← hk.2] at e
    exact again0 (k + 1) ⟨by omega, e⟩ (by omega) (by ((first | refine qen ?_ | refine qvs ?_ | refine qeq ?_ | refine qst ?_ | refine qv ?_ | refine qc ?_ | refine qe ?_ | refine qcs ?_ | skip); (repeat' first | exact rfl | (refine qS ?_; constructor))))
  · have e : idxE n 0 l = -1 := by rw [hk.2, List.drop_of_length_le (by omega)]; rfl
    (refine rqK rfl ?_; (repeat' first | exact rfl | (refine qS ?_; constructor))); rw [e]
theorem C64 {l : List Int} {n : Int} : l.length ≤ 1000000 → PFD Tryz.prog 64 [.c (ints l), vi .i64 n] (vbl (decide (n ∈ l))) := fun hl => by
  refine pi1 fn64 ?_
  (repeat' first | (refine Owe.same ?_; first | refine Owe.o ?_ | refine Owe.mk ?_ ?_) | (refine Fork.same ?_; (first | refine fkD ?_ ?_ | refine fkN ?_ ?_ | refine fkM ?_ ?_) <;> intro h) | ((first | refine OpsL.same ?_ | refine OpsDL.same ?_); first | refine pK (C99 hl) rfl rfl ?_) | refine MvQ.stay ?_)
  (refine rqK rfl ?_; (repeat' first | exact rfl | (refine qS ?_; constructor)))
  exact decide_eq_decide.2 (idxE_ge n l 0 (Int.le_refl _))
end Go.Pw

set_option linter.unusedVariables false
set_option maxHeartbeats 2000000
set_option maxRecDepth 100000
namespace Go.Pw
open Go Go.Proofs
/-- moonpool/sonar.said -/
def lc100u : LCode :=
  (.seq (.region [⟨some 2, .box (.tmp 0), none⟩, ⟨some 3, .box (.tmp 1), none⟩, ⟨some 4, .mv (.const .nilFunc), none⟩]) (.seq (.region [⟨some 5, .mkfn 135 [(.tmp 2), (.tmp 3)],
    none⟩, ⟨some 4, .mv (.tmp 5), none⟩]) .ret))
theorem low100u : lowF Tryz.prog [] Tryz.f100 = some (6, lc100u.strip, [.tmp 4]) := by kernel_rfl
theorem fn100u : FnOk Tryz.prog 100 6 lc100u [.tmp 4] := ⟨Tryz.call100, [], _, Tryz.func100, low100u⟩
end Go.Pw

set_option linter.unusedSimpArgs false
set_option linter.unusedVariables false
namespace Go.Pw
set_option maxRecDepth 2000
open Go Go.Proofs A1 A2 A3 A4
/-- Both bits, as the program has them. -/
def orI (a b : Int) : Int := IntKind.i64.wrap ((BitVec.ofInt IntKind.i64.bits a ||| BitVec.ofInt IntKind.i64.bits b).toNat : Nat)
theorem orI_bd {a b : Int} (ha : 0 ≤ a ∧ a ≤ 3) (hb : 0 ≤ b ∧ b ≤ 3) : 0 ≤ orI a b ∧ orI a b ≤ 3 := by
  have h1 : a = 0 ∨ a = 1 ∨ a = 2 ∨ a = 3 := by omega
  have h2 : b = 0 ∨ b = 1 ∨ b = 2 ∨ b = 3 := by omega
  rcases h1 with rfl | rfl | rfl | rfl <;> rcases h2 with rfl | rfl | rfl | rfl <;> decide
def stC (r : Ry) (c : Cel) : Int := if c = r.2.1 ∧ r.2.2 = true then 2 else 1
def cellN (w : Int) (c : Cel) : Nat := (c.2 * w + c.1).toNat
def updS (w : Int) (r : Ry) (out : List Int) (c : Cel) : List Int := out.set (cellN w c) (orI (out.getD (cellN w c) 0) (stC r c))
def stR (w : Int) (r : Ry) (out : List Int) : List Int := (crS r).foldl (updS w r) out
/-- The states after so many rays. -/
def stK (s : Sc) (wo : List Int) : Nat → List Int
  | 0 => List.replicate (s.1 * s.2.1).toNat 0
  | k + 1 => if (k : Int) ∈ wo then stK s wo k else stR s.1 (s.2.2.getD k ryd) (stK s wo k)
def stS (s : Sc) (wo : List Int) : List Int := stK s wo s.2.2.length
structure ScOk (s : Sc) : Prop where
  w : 1 ≤ s.1 ∧ s.1 ≤ 12
  h : 1 ≤ s.2.1 ∧ s.2.1 ≤ 12
  n : s.2.2.length ≤ 10
  r : ∀ i, i < s.2.2.length → ryOk (s.2.2.getD i ryd) s.1 s.2.1
/-- The states when so many cells of a ray are seen to. -/
def stJ (w : Int) (r : Ry) (out : List Int) (j : Nat) : List Int := ((crS r).take j).foldl (updS w r) out
theorem stJ_succ {w : Int} {r : Ry} {out : List Int} {j : Nat} (h : j < (crS r).length) : stJ w r out (j + 1) = updS w r (stJ w r out j) ((crS r).getD j (0, 0)) := by
  rw [stJ, stJ, List.take_add_one, List.foldl_append, List.getElem?_eq_getElem h, List.getD_eq_getElem?_getD, List.getElem?_eq_getElem h]; rfl
theorem stJ_all {w : Int} {r : Ry} {out : List Int} : stJ w r out (crS r).length = stR w r out := by rw [stJ, List.take_length]; rfl
theorem foldU_len {w : Int} {r : Ry} : ∀ (l : List Cel) (out : List Int), (l.foldl (updS w r) out).length = out.length
  | [], _ => rfl
  | c :: l, out => by rw [List.foldl_cons, foldU_len l]; simp [updS]
theorem stK_len {s : Sc} {wo : List Int} : ∀ k, (stK s wo k).length = (s.1 * s.2.1).toNat
  | 0 => by simp [stK]
  | k + 1 => by
    rw [stK]; split
    · exact stK_len k
    · rw [stR, foldU_len]; exact stK_len k
theorem stC_bd {r : Ry} {c : Cel} : 0 ≤ stC r c ∧ stC r c ≤ 3 := by rw [stC]; split <;> decide
theorem updS_bd {w : Int} {r : Ry} {out : List Int} {c : Cel} (h : ∀ i, 0 ≤ out.getD i 0 ∧ out.getD i 0 ≤ 3) (i : Nat) : 0 ≤ (updS w r out c).getD i 0 ∧ (updS w r out c).getD i 0 ≤ 3 := by
  rw [updS, List.getD_eq_getElem?_getD, List.getElem?_set]
  split
  · split
    · exact orI_bd (h _) stC_bd
    · decide
  · have := h i; rwa [List.getD_eq_getElem?_getD] at this
theorem foldU_bd {w : Int} {r : Ry} : ∀ (l : List Cel) (out : List Int), (∀ i, 0 ≤ out.getD i 0 ∧ out.getD i 0 ≤ 3) → ∀ i, 0 ≤ (l.foldl (updS w r) out).getD i 0 ∧ (l.foldl (updS w r) out).getD i 0 ≤ 3
  | [], _, h, i => h i
  | c :: l, out, h, i => by rw [List.foldl_cons]; exact foldU_bd l _ (updS_bd h) i
theorem stK_bd {s : Sc} {wo : List Int} : ∀ (k i : Nat), 0 ≤ (stK s wo k).getD i 0 ∧ (stK s wo k).getD i 0 ≤ 3
  | 0, i => by rw [stK, List.getD_eq_getElem?_getD, List.getElem?_replicate]; split <;> decide
  | k + 1, i => by
    rw [stK]; split
    · exact stK_bd k i
    · exact foldU_bd _ _ (stK_bd k) i
theorem crS_in {r : Ry} {w g : Int} (hO : ryOk r w g) {c : Cel} (hc : c ∈ crS r) : inG c w g := by
  obtain ⟨_, hx, hy⟩ := crS_mem.1 hc
  obtain ⟨h1, h2⟩ := hO
  simp only [inG, Ry.x0, Ry.y0, Ry.wn, Ry.hn, Ry.dx, Ry.dy, sz] at *
  omega
theorem stC_2 {r : Ry} {c : Cel} (h : (decide (c.1 = r.2.1.1) && decide (c.2 = r.2.1.2)) = true) (h2 : r.2.2 = true) : stC r c = 2 := by
  simp only [Bool.and_eq_true, decide_eq_true_eq] at h
  rw [stC, if_pos ⟨Prod.ext h.1 h.2, h2⟩]
theorem stC_1a {r : Ry} {c : Cel} (h : (decide (c.1 = r.2.1.1) && decide (c.2 = r.2.1.2)) = false) : stC r c = 1 := by
  rw [stC, if_neg]
  rintro ⟨rfl, _⟩
  simp at h
theorem stC_1b {r : Ry} {c : Cel} (h : r.2.2 = false) : stC r c = 1 := by
  rw [stC, if_neg]
  rintro ⟨_, h2⟩
  rw [h] at h2; cases h2
theorem cell_bd {c : Cel} {w g : Int} (hc : inG c w g) (hw : 1 ≤ w) : 0 ≤ c.2 * w + c.1 ∧ c.2 * w + c.1 < w * g := by
  simp only [inG] at hc
  have h1 : 0 ≤ c.2 * w := Int.mul_nonneg (by omega) (by omega)
  have h2 : c.2 * w ≤ (g - 1) * w := Int.mul_le_mul_of_nonneg_right (by omega) (by omega)
  rw [Int.sub_mul, Int.one_mul, Int.mul_comm g w] at h2
  omega
theorem C65 {s : Sc} {wo : List Int} : (ScOk s ∧ wo.length ≤ 1000000) → PFD Tryz.prog 65 [scv s, .c (ints wo)] (.c (ints (stS s wo))) := fun ⟨hO, hwo⟩ => by
  obtain ⟨w, g, l⟩ := s
  have hw := hO.w; have hh := hO.h; have hn := hO.n
  simp only at hw hh hn
  obtain ⟨S, hS⟩ : ∃ S, S = stS (w, g, l) wo := ⟨_, rfl⟩
  rw [← hS]
  have mwg : 1 ≤ w * g ∧ w * g ≤ 144 := by
    have h1 : (1 : Int) * 1 ≤ w * g := Int.mul_le_mul hw.1 hh.1 (by decide) (by omega)
    have h2 : w * g ≤ 12 * 12 := Int.mul_le_mul hw.2 hh.2 (by omega) (by decide)
    omega
  refine pi1 fn65 ?_
  (repeat' first | (refine Owe.same ?_; first | refine Owe.o ?_ | refine Owe.mk ?_ ?_) | (refine Fork.same ?_; (first | refine fkD ?_ ?_ | refine fkN ?_ ?_ | refine fkM ?_ ?_) <;> intro h) | refine MvQ.stay ?_)
  refine Sat.lp (fun k : Nat => ⟨[(18, vi .i64 k), (17, vi .i64 l.length), (16, .c (rys l)), (1, .c (ints wo)), (2, .c (.rp (scD (w, g, l)))), (5, .c (.bp 1 0))], [(1, .box [.ms 0 (stK (w, g, l) wo k).length]), (0, rowv 3 1 r1 0 (stK (w, g, l) wo k))], 2⟩)
    (fun k => k ≤ l.length) (fun k => l.length - k) 0 [0, 1] (Nat.zero_le _) ?_ ?_
  · (refine qis ?_ ?_ <;> (repeat' first | exact rfl | (refine qS ?_; constructor)))
    · simp [stK]
    · exact ⟨0, rfl, rfl⟩
  · intro k hk
    refine Fork.dec (fun hlt => ?_) (fun hlt => ?_)
    · have hlt : k < l.length := by omega
      have hr := hO.r k hlt
      simp only at hr
      (repeat' first | (refine Owe.same ?_; first | refine Owe.o ?_ | refine Owe.mk ?_ ?_) | (refine Fork.same ?_; (first | refine fkD ?_ ?_ | refine fkN ?_ ?_ | refine fkM ?_ ?_) <;> intro h) | ((first | refine OpsL.same ?_ | refine OpsDL.same ?_); first | refine pK C64 rfl rfl ?_) | refine MvQ.stay ?_)
      · have e : stK (w, g, l) wo (k + 1) = stK (w, g, l) wo k := by rw [stK, if_pos h]
        refine again (k + 1) [0, 1] hlt (by omega) ?_
        rw [e]
        (refine qis ?_ ?_ <;> (repeat' first | exact rfl | (refine qS ?_; constructor)))
      · have e : stK (w, g, l) wo (k + 1) = stR w (l.getD k ryd) (stK (w, g, l) wo k) := by rw [stK, if_neg h]
        (repeat' first | (refine Owe.same ?_; first | refine Owe.o ?_ | refine Owe.mk ?_ ?_) | (refine Fork.same ?_; (first | refine fkD ?_ ?_ | refine fkN ?_ ?_ | refine fkM ?_ ?_) <;> intro h) | refine MvQ.stay ?_)
        refine Ops.cs rfl rfl (CallS.of fn100u rfl ?_)
        (repeat' first | (refine Owe.same ?_; first | refine Owe.o ?_ | refine Owe.mk ?_ ?_) | (refine Fork.same ?_; (first | refine fkD ?_ ?_ | refine fkN ?_ ?_ | refine fkM ?_ ?_) <;> intro h) | refine MvQ.stay ?_)
        refine Sat.keep [1, 2, 5, 16, 17, 18, 29] ?_
        refine Sat.rf rfl rfl (CallS.of fn135 rfl ?_)
        (repeat' first | (refine Owe.same ?_; first | refine Owe.o ?_ | refine Owe.mk ?_ ?_) | (refine Fork.same ?_; (first | refine fkD ?_ ?_ | refine fkN ?_ ?_ | refine fkM ?_ ?_) <;> intro h) | refine MvQ.stay ?_)
        have hr12 : ryOk (l.getD k ryd) 12 12 := by simp only [ryOk, inG] at hr ⊢; omega
        have c44 := C116 hr12
        have hin : ∀ c ∈ crS (l.getD k ryd), inG c w g := fun c hc => crS_in hr hc
        have hlen := stK_len (s := (w, g, l)) (wo := wo) k
        have hcl : (crS (l.getD k ryd)).length ≤ 12 * 12 := by
          have h1 := wn_le hr12
          have h2 := hn_le hr12
          exact Nat.le_trans crS_len (Nat.mul_le_mul (by omega) (by omega))
        (repeat' first | (refine Owe.same ?_; first | refine Owe.o ?_ | refine Owe.mk ?_ ?_) | (refine Fork.same ?_; (first | refine fkD ?_ ?_ | refine fkN ?_ ?_ | refine fkM ?_ ?_) <;> intro h) | ((first | refine OpsL.same ?_ | refine OpsDL.same ?_); first | refine pK c44 rfl rfl ?_) | refine MvQ.stay ?_)
        refine Sat.lp (fun j : Nat => ⟨[(10, vi .i64 j), (9, vi .i64 (crS (l.getD k ryd)).length), (8, .c (prs (crS (l.getD k ryd)))), (0, .c (.yd 5)), (1, .c (.bp 3 0)), (2, .c (.bp 4 0))],
            [(5, .lp [(1, .c (ints wo)), (2, .c (.rp (scD (w, g, l)))), (5, .c (.bp 1 0)), (16, .c (rys l)), (17, vi .i64 l.length), (18, vi .i64 k), (29, .c (.fn 135 [3, 4]))] .ready none (RR Tryz.prog 42 [30] ra65 rb65)),
              (4, .box [int w]), (3, .box [int (l.getD k ryd).1.1, int (l.getD k ryd).1.2, int (l.getD k ryd).2.1.1, int (l.getD k ryd).2.1.2, .d (.v (.bool (l.getD k ryd).2.2))]),
              (1, .box [.ms 0 (stJ w (l.getD k ryd) (stK (w, g, l) wo k) j).length]), (0, rowv 3 1 r1 0 (stJ w (l.getD k ryd) (stK (w, g, l) wo k) j))], 6⟩)
          (fun j => j ≤ (crS (l.getD k ryd)).length) (fun j => (crS (l.getD k ryd)).length - j) 0 [] (Nat.zero_le _) ?_ ?_
        · (refine qis ?_ ?_ <;> (repeat' first | exact rfl | (refine qS ?_; constructor)))
        · intro j hj
          refine Fork.dec (fun hlt => ?_) (fun hlt => ?_)
          · have hlt : j < (crS (l.getD k ryd)).length := by omega
            have hc : inG ((crS (l.getD k ryd)).getD j (0, 0)) w g := hin _ (getD_mem (0, 0) hlt)
            have mc := cell_bd hc hw.1
            have hjl : ∀ j, (stJ w (l.getD k ryd) (stK (w, g, l) wo k) j).length = (w * g).toNat := fun j => by rw [stJ, foldU_len]; exact hlen
            have hj1 := hjl j
            have hu := stJ_succ (w := w) (out := stK (w, g, l) wo k) hlt
            simp only [inG] at hc
            (repeat' first | (refine Owe.same ?_; first | refine Owe.o ?_ | refine Owe.mk ?_ ?_) | (refine Fork.same ?_; (first | refine fkD ?_ ?_ | refine fkN ?_ ?_ | refine fkM ?_ ?_) <;> intro h) | ((first | refine OpsL.same ?_ | refine OpsDL.same ?_); first | refine pK C118 rfl rfl ?_) | refine MvQ.stay ?_)
            · rename_i h1
              have hst : stC (l.getD k ryd) ((crS (l.getD k ryd)).getD j (0, 0)) = 2 := stC_2 h1 h
              refine Ops.yd rfl rfl rfl rfl rfl ?_
              (repeat' first | (refine Owe.same ?_; first | refine Owe.o ?_ | refine Owe.mk ?_ ?_) | (refine Fork.same ?_; (first | refine fkD ?_ ?_ | refine fkN ?_ ?_ | refine fkM ?_ ?_) <;> intro h) | refine MvQ.stay ?_)
              refine And.intro rfl (Exists.intro _ (And.intro rfl ?_))
              (repeat' first | (refine Owe.same ?_; first | refine Owe.o ?_ | refine Owe.mk ?_ ?_) | (refine Fork.same ?_; (first | refine fkD ?_ ?_ | refine fkN ?_ ?_ | refine fkM ?_ ?_) <;> intro h) | refine MvQ.stay ?_)
              refine Exists.intro _ (Exists.intro _ (Exists.intro _ (And.intro rfl ?_)))
              (repeat' first | (refine Owe.same ?_; first | refine Owe.o ?_ | refine Owe.mk ?_ ?_) | (refine Fork.same ?_; (first | refine fkD ?_ ?_ | refine fkN ?_ ?_ | refine fkM ?_ ?_) <;> intro h) | refine MvQ.stay ?_)
              refine again (j + 1) [] hlt (by omega) ?_
              (refine qis ?_ ?_ <;> (repeat' first | exact rfl | (refine qS ?_; constructor)))
              · rw [hjl, hjl]
              · refine ⟨orI ((stJ w (l.getD k ryd) (stK (w, g, l) wo k) j).getD (cellN w ((crS (l.getD k ryd)).getD j (0, 0))) 0) 2, rfl, ?_⟩
                rw [hu, updS, hst]; rfl
            · have hst : stC (l.getD k ryd) ((crS (l.getD k ryd)).getD j (0, 0)) = 1 := stC_1b h
              refine Ops.yd rfl rfl rfl rfl rfl ?_
              (repeat' first | (refine Owe.same ?_; first | refine Owe.o ?_ | refine Owe.mk ?_ ?_) | (refine Fork.same ?_; (first | refine fkD ?_ ?_ | refine fkN ?_ ?_ | refine fkM ?_ ?_) <;> intro h) | refine MvQ.stay ?_)
              refine And.intro rfl (Exists.intro _ (And.intro rfl ?_))
              (repeat' first | (refine Owe.same ?_; first | refine Owe.o ?_ | refine Owe.mk ?_ ?_) | (refine Fork.same ?_; (first | refine fkD ?_ ?_ | refine fkN ?_ ?_ | refine fkM ?_ ?_) <;> intro h) | refine MvQ.stay ?_)
              refine Exists.intro _ (Exists.intro _ (Exists.intro _ (And.intro rfl ?_)))
              (repeat' first | (refine Owe.same ?_; first | refine Owe.o ?_ | refine Owe.mk ?_ ?_) | (refine Fork.same ?_; (first | refine fkD ?_ ?_ | refine fkN ?_ ?_ | refine fkM ?_ ?_) <;> intro h) | refine MvQ.stay ?_)
              refine again (j + 1) [] hlt (by omega) ?_
              (refine qis ?_ ?_ <;> (repeat' first | exact rfl | (refine qS ?_; constructor)))
              · rw [hjl, hjl]
              · refine ⟨orI ((stJ w (l.getD k ryd) (stK (w, g, l) wo k) j).getD (cellN w ((crS (l.getD k ryd)).getD j (0, 0))) 0) 1, rfl, ?_⟩
                rw [hu, updS, hst]; rfl
            · have hst : stC (l.getD k ryd) ((crS (l.getD k ryd)).getD j (0, 0)) = 1 := stC_1a h
              refine Ops.yd rfl rfl rfl rfl rfl ?_
              (repeat' first | (refine Owe.same ?_; first | refine Owe.o ?_ | refine Owe.mk ?_ ?_) | (refine Fork.same ?_; (first | refine fkD ?_ ?_ | refine fkN ?_ ?_ | refine fkM ?_ ?_) <;> intro h) | refine MvQ.stay ?_)
              refine And.intro rfl (Exists.intro _ (And.intro rfl ?_))
              (repeat' first | (refine Owe.same ?_; first | refine Owe.o ?_ | refine Owe.mk ?_ ?_) | (refine Fork.same ?_; (first | refine fkD ?_ ?_ | refine fkN ?_ ?_ | refine fkM ?_ ?_) <;> intro h) | refine MvQ.stay ?_)
              refine Exists.intro _ (Exists.intro _ (Exists.intro _ (And.intro rfl ?_)))
              (repeat' first | (refine Owe.same ?_; first | refine Owe.o ?_ | refine Owe.mk ?_ ?_) | (refine Fork.same ?_; (first | refine fkD ?_ ?_ | refine fkN ?_ ?_ | refine fkM ?_ ?_) <;> intro h) | refine MvQ.stay ?_)
              refine again (j + 1) [] hlt (by omega) ?_
              (refine qis ?_ ?_ <;> (repeat' first | exact rfl | (refine qS ?_; constructor)))
              · rw [hjl, hjl]
              · refine ⟨orI ((stJ w (l.getD k ryd) (stK (w, g, l) wo k) j).getD (cellN w ((crS (l.getD k ryd)).getD j (0, 0))) 0) 1, rfl, ?_⟩
                rw [hu, updS, hst]; rfl
          · (repeat' first | (refine Owe.same ?_; first | refine Owe.o ?_ | refine Owe.mk ?_ ?_) | (refine Fork.same ?_; (first | refine fkD ?_ ?_ | refine fkN ?_ ?_ | refine fkM ?_ ?_) <;> intro h) | refine MvQ.stay ?_)
            have : j = (crS (l.getD k ryd)).length := by omega
            subst this
            refine again (k + 1) [0, 1] (by omega) (by omega) ?_
            simp only [e, ← stJ_all]
            (refine qis ?_ ?_ <;> (repeat' first | exact rfl | (refine qS ?_; constructor)))
    · (repeat' first | (refine Owe.same ?_; first | refine Owe.o ?_ | refine Owe.mk ?_ ?_) | (refine Fork.same ?_; (first | refine fkD ?_ ?_ | refine fkN ?_ ?_ | refine fkM ?_ ?_) <;> intro h) | refine MvQ.stay ?_)
      have : k = l.length := by omega
      subst this
      have e : S = stK (w, g, l) wo l.length := hS
      subst e
      refine rqF 0 _ rfl rfl rfl ?_; (repeat' first | exact rfl | (refine qS ?_; constructor))
end Go.Pw

set_option linter.unusedSimpArgs false
set_option linter.unusedVariables false
namespace Go.Pw
set_option maxRecDepth 2000
open Go Go.Proofs A1 A2 A3 A4
theorem scE_ok {s : Sc} : (scE s).2 = 0 ↔ gridE s.1 s.2.1 s.2.2.length = 0 ∧ ∀ r ∈ s.2.2, ryOk r s.1 s.2.1 := by
  rw [scE]
  split
  · rename_i h
    rw [eachE_ok]
    constructor
    · intro h1; exact ⟨h, fun r hr => (unl0 (by decide)).1 (h1 r hr)⟩
    · intro h1 r hr; exact (unl0 (by decide)).2 (h1.2 r hr)
  · rename_i h
    constructor
    · intro h1; exact absurd h1 h
    · intro h1; exact absurd h1.1 h
theorem scE_sc {s : Sc} (h : (scE s).2 = 0) : ScOk s := by
  obtain ⟨h1, h2⟩ := scE_ok.1 h
  have := gridE_ok.1 h1
  exact ⟨this.1.1, this.1.2, by omega, fun i hi => h2 _ (getD_mem _ hi)⟩
theorem C35 {s : Sc} : s.2.2.length ≤ 1000000 → PFD Tryz.prog 35 [scv s] (.tup [.c (ints (if (scE s).2 = 0 then stS s [] else [])), vi .i64 (scE s).2]) := fun hl => by
  by_cases h0 : (scE s).2 = 0
  · rw [if_pos h0]
    have hO := scE_sc h0
    have c71 := C65 (s := s) (wo := []) ⟨hO, by simp⟩
    obtain ⟨S, hS⟩ : ∃ S, S = stS s [] := ⟨_, rfl⟩
    rw [← hS] at c71 ⊢
    refine pi2 fn35 ?_
    (repeat' first | (refine Owe.same ?_; first | refine Owe.o ?_ | refine Owe.mk ?_ ?_) | (refine Fork.same ?_; (first | refine fkD ?_ ?_ | refine fkN ?_ ?_ | refine fkM ?_ ?_) <;> intro h) | ((first | refine OpsL.same ?_ | refine OpsDL.same ?_); first | refine pK (C49 hl) rfl rfl ?_ | refine pK c71 rfl rfl ?_) | refine MvQ.stay ?_)
    · exact absurd h0 h
    · (refine rqK rfl ?_; (repeat' first | exact rfl | (refine qS ?_; constructor)))
      exact h0.symm
  · rw [if_neg h0]
    refine pi2 fn35 ?_
    (repeat' first | (refine Owe.same ?_; first | refine Owe.o ?_ | refine Owe.mk ?_ ?_) | (refine Fork.same ?_; (first | refine fkD ?_ ?_ | refine fkN ?_ ?_ | refine fkM ?_ ?_) <;> intro h) | ((first | refine OpsL.same ?_ | refine OpsDL.same ?_); first | refine pK (C49 hl) rfl rfl ?_) | refine MvQ.stay ?_)
    · (refine rqK rfl ?_; (repeat' first | exact rfl | (refine qS ?_; constructor)))
    · exact absurd h h0
def conL (l : List Int) : Nat → List Int
  | 0 => []
  | k + 1 => if l.getD k 0 = 3 then conL l k ++ [(k : Int)] else conL l k
theorem conL_len (l : List Int) : ∀ k, (conL l k).length ≤ k
  | 0 => Nat.le_refl _
  | k + 1 => by
    have := conL_len l k
    rw [conL]; split
    · simp; omega
    · omega
theorem C58 {s : Sc} : s.2.2.length ≤ 1000000 → PFD Tryz.prog 58 [scv s] (.tup [.c (ints (if (scE s).2 = 0 then conL (stS s []) (stS s []).length else [])), vi .i64 (scE s).2]) := fun hl => by
  have c35 := C35 hl
  obtain ⟨S, hS⟩ : ∃ S, S = if (scE s).2 = 0 then stS s [] else [] := ⟨_, rfl⟩
  have e : (if (scE s).2 = 0 then conL (stS s []) (stS s []).length else []) = conL S S.length := by
    rw [hS]; split <;> rfl
  rw [e]
  rw [← hS] at c35
  have hSl : S.length ≤ 144 := by
    rw [hS]; split
    · rename_i h0
      have hO := scE_sc h0
      rw [stS, stK_len]
      have h2 : s.1 * s.2.1 ≤ 12 * 12 := Int.mul_le_mul hO.w.2 hO.h.2 (by have := hO.h; omega) (by decide)
      omega
    · simp
  generalize (scE s).2 = er at *
  refine pi2 fn58 ?_
  (repeat' first | (refine Owe.same ?_; first | refine Owe.o ?_ | refine Owe.mk ?_ ?_) | (refine Fork.same ?_; (first | refine fkD ?_ ?_ | refine fkN ?_ ?_ | refine fkM ?_ ?_) <;> intro h) | ((first | refine OpsL.same ?_ | refine OpsDL.same ?_); first | refine pK c35 rfl rfl ?_) | refine MvQ.stay ?_)
  refine Sat.nilS 6 3 1 (fun i => r1 (([] : List Int).getD i 0)) rfl ?_
  refine Sat.lp (fun k : Nat => ⟨[(16, vi .i64 k), (15, vi .i64 S.length), (14, .c (ints S)), (5, vi .i64 er), (6, .c (.ms 0 (conL S k).length))], [(0, rowv 3 1 r1 0 (conL S k))], 1⟩)
    (fun k => k ≤ S.length) (fun k => S.length - k) 0 [0] (Nat.zero_le _) ?_ ?_
  · (refine qis ?_ ?_ <;> (repeat' first | exact rfl | (refine qS ?_; constructor)))
  · intro k hk
    have hc := conL_len S k
    refine Fork.dec (fun hlt => ?_) (fun hlt => ?_)
    · have hlt : k < S.length := by omega
      (repeat' first | (refine Owe.same ?_; first | refine Owe.o ?_ | refine Owe.mk ?_ ?_) | (refine Fork.same ?_; (first | refine fkD ?_ ?_ | refine fkN ?_ ?_ | refine fkM ?_ ?_) <;> intro h) | refine MvQ.stay ?_)
      · have e2 : conL S (k + 1) = conL S k ++ [(k : Int)] := by rw [conL, if_pos (show S.getD k 0 = 3 from h)]
        refine again (k + 1) [1] hlt (by omega) ?_
        (refine qis ?_ ?_ <;> (repeat' first | exact rfl | (refine qS ?_; constructor)))
        · rw [e2]; simp
        · exact e2
      · have e2 : conL S (k + 1) = conL S k := by rw [conL, if_neg (show ¬ S.getD k 0 = 3 from h)]
        refine again (k + 1) [0] hlt (by omega) ?_
        (refine qis ?_ ?_ <;> (repeat' first | exact rfl | (refine qS ?_; constructor)))
        · rw [e2]
        · exact e2.symm
    · have : k = S.length := by omega
      subst this
      (repeat' first | (refine Owe.same ?_; first | refine Owe.o ?_ | refine Owe.mk ?_ ?_) | (refine Fork.same ?_; (first | refine fkD ?_ ?_ | refine fkN ?_ ?_ | refine fkM ?_ ?_) <;> intro h) | refine MvQ.stay ?_)
      refine rqF 0 _ rfl rfl rfl ?_; (repeat' first | exact rfl | (refine qS ?_; constructor))
def odC (s : Sc) (t : List Int) : Int × Bool := ((t.length : Int), !decide ((3 : Int) ∈ stS s t))
theorem C63 {s : Sc} {t : List Int} : (ScOk s ∧ t.length ≤ 1000000) → PFD Tryz.prog 63 [.c (ints t), .c (.rp (scD s))] (.tup [vi .i64 (odC s t).1, vbl (odC s t).2]) := fun ⟨hO, ht⟩ => by
  have c71 := C65 (s := s) (wo := t) ⟨hO, ht⟩
  have hl : (stS s t).length ≤ 144 := by
    rw [stS, stK_len]
    have h2 : s.1 * s.2.1 ≤ 12 * 12 := Int.mul_le_mul hO.w.2 hO.h.2 (by have := hO.h; omega) (by decide)
    omega
  rw [odC]
  generalize stS s t = S at *
  refine pi2 fn63 ?_
  (repeat' first | (refine Owe.same ?_; first | refine Owe.o ?_ | refine Owe.mk ?_ ?_) | (refine Fork.same ?_; (first | refine fkD ?_ ?_ | refine fkN ?_ ?_ | refine fkM ?_ ?_) <;> intro h) | ((first | refine OpsL.same ?_ | refine OpsDL.same ?_); first | refine pK c71 rfl rfl ?_ | refine pK C64 rfl rfl ?_) | refine MvQ.stay ?_)
  (refine rqK rfl ?_; (repeat' first | exact rfl | (refine qS ?_; constructor)))
theorem C29 {s : Sc} : s.2.2.length ≤ 1000000 → PFD Tryz.prog 29 [scv s] (.tup [.c (ints (if (scE s).2 = 0 then (bestK (odC s) s.2.2.length (2 ^ s.2.2.length)).l else [])), vi .i64 (scE s).2]) := fun hl => by
  by_cases h0 : (scE s).2 = 0
  · rw [if_pos h0]
    have hO := scE_sc h0
    have c68 := C62 (g := 63) (rows := [scD s]) (c := odC s) (n := s.2.2.length) (fun t ht _ => C63 ⟨hO, ht⟩) (by have := hO.n; omega)
    generalize bestK (odC s) s.2.2.length (2 ^ s.2.2.length) = B at *
    refine pi2 fn29 ?_
    (repeat' first | (refine Owe.same ?_; first | refine Owe.o ?_ | refine Owe.mk ?_ ?_) | (refine Fork.same ?_; (first | refine fkD ?_ ?_ | refine fkN ?_ ?_ | refine fkM ?_ ?_) <;> intro h) | ((first | refine OpsL.same ?_ | refine OpsDL.same ?_); first | refine pK (C49 hl) rfl rfl ?_ | refine pK c68 rfl rfl ?_) | refine MvQ.stay ?_)
    · exact absurd h0 h
    · (refine rqK rfl ?_; (repeat' first | exact rfl | (refine qS ?_; constructor)))
      exact h0.symm
  · rw [if_neg h0]
    refine pi2 fn29 ?_
    (repeat' first | (refine Owe.same ?_; first | refine Owe.o ?_ | refine Owe.mk ?_ ?_) | (refine Fork.same ?_; (first | refine fkD ?_ ?_ | refine fkN ?_ ?_ | refine fkM ?_ ?_) <;> intro h) | ((first | refine OpsL.same ?_ | refine OpsDL.same ?_); first | refine pK (C49 hl) rfl rfl ?_) | refine MvQ.stay ?_)
    · (refine rqK rfl ?_; (repeat' first | exact rfl | (refine qS ?_; constructor)))
    · exact absurd h h0
end Go.Pw

set_option linter.unusedSimpArgs false
set_option linter.unusedVariables false
namespace Go.Pw
set_option maxRecDepth 2000
open Go Go.Proofs A1 A2 A3 A4
abbrev Vw := Ry × Int
abbrev vwd : Vw := (ryd, 0)
abbrev Se := Int × Int × List Vw × List Int
end Go.Pw

set_option linter.unusedSimpArgs false
set_option linter.unusedVariables false
namespace Go.Pw
set_option maxRecDepth 2000
open Go Go.Proofs A1 A2 A3 A4
/-- Ascending numbers. -/
abbrev srt (l : List Int) : Prop := ∀ i j, i < j → j < l.length → l.getD i 0 < l.getD j 0
end Go.Pw

set_option linter.unusedVariables false
set_option maxHeartbeats 2000000
set_option maxRecDepth 100000
namespace Go.Pw
open Go Go.Proofs
end Go.Pw

set_option linter.unusedSimpArgs false
set_option linter.unusedVariables false
namespace Go.Pw
set_option maxRecDepth 2000
open Go Go.Proofs A1 A2 A3 A4
structure SeOk (x : Se) : Prop where
  w : 1 ≤ x.1 ∧ x.1 ≤ 12
  h : 1 ≤ x.2.1 ∧ x.2.1 ≤ 12
  n : x.2.2.1.length ≤ 10
  v : ∀ i, i < x.2.2.1.length → ryOk (x.2.2.1.getD i vwd).1 x.1 x.2.1 ∧ 0 ≤ (x.2.2.1.getD i vwd).2 ∧ (x.2.2.1.getD i vwd).2 ≤ 1000
  m : ∀ y ∈ x.2.2.2, 0 ≤ y ∧ y ≤ x.1 * x.2.1 - 1
  s : srt x.2.2.2
theorem of_srt {m : List Int} (h : srt m) : m.Pairwise (· < ·) := List.pairwise_iff_getElem.2 fun i j hi hj hij => by
  have := h i j hij hj
  simpa [List.getD_eq_getElem?_getD, List.getElem?_eq_getElem, hj, hi] using this
theorem srt_len : ∀ {m : List Int} {lo hi : Int}, lo ≤ hi + 1 → m.Pairwise (· < ·) → (∀ y ∈ m, lo ≤ y ∧ y ≤ hi) → (m.length : Int) ≤ hi - lo + 1
  | [], lo, hi, hle, _, _ => by simp; omega
  | y :: m, lo, hi, hle, h, hb => by
    obtain ⟨h1, h2⟩ := List.pairwise_cons.1 h
    have h3 := hb y (List.mem_cons_self ..)
    have := srt_len (m := m) (lo := y + 1) (hi := hi) (by omega) h2 fun z hz => ⟨by have := h1 z hz; omega, (hb z (List.mem_cons_of_mem _ hz)).2⟩
    simp only [List.length_cons]; omega
theorem SeOk.wg {x : Se} (h : SeOk x) : 1 ≤ x.1 * x.2.1 ∧ x.1 * x.2.1 ≤ 144 := by
  have h1 : (1 : Int) * 1 ≤ x.1 * x.2.1 := Int.mul_le_mul h.w.1 h.h.1 (by decide) (by have := h.w; omega)
  have h2 : x.1 * x.2.1 ≤ 12 * 12 := Int.mul_le_mul h.w.2 h.h.2 (by have := h.h; omega) (by decide)
  omega
theorem SeOk.len {x : Se} (h : SeOk x) : x.2.2.2.length ≤ 144 := by
  have := srt_len (lo := 0) (hi := x.1 * x.2.1 - 1) (by have := h.wg; omega) (of_srt h.s) h.m
  have := h.wg
  omega
end Go.Pw

set_option linter.unusedVariables false
namespace Go.Pw
open Go Go.RowKit
theorem row5 {ds : List D} (h : OkDs [.int .i64, .int .i64, .int .i64, .int .i64, .bool] ds) : ∃ r : Ry, ds = r5 r ∧ (i64 r.1.1 ∧ i64 r.1.2) ∧ i64 r.2.1.1 ∧ i64 r.2.1.2 := by
  obtain ⟨d1, e1, rfl, a1, k1⟩ := okDs_cons h
  obtain ⟨d2, e2, rfl, a2, k2⟩ := okDs_cons k1
  obtain ⟨d3, e3, rfl, a3, k3⟩ := okDs_cons k2
  obtain ⟨d4, e4, rfl, a4, k4⟩ := okDs_cons k3
  obtain ⟨d5, e5, rfl, a5, k5⟩ := okDs_cons k4
  obtain ⟨n1, rfl, b1⟩ := okD_int a1
  obtain ⟨n2, rfl, b2⟩ := okD_int a2
  obtain ⟨n3, rfl, b3⟩ := okD_int a3
  obtain ⟨n4, rfl, b4⟩ := okD_int a4
  obtain ⟨x, rfl⟩ := okD_bool a5
  rw [okDs_nil k5]
  exact ⟨((n1, n2), (n3, n4), x), rfl, ⟨b1, b2⟩, b3, b4⟩
end Go.Pw

set_option linter.unusedSimpArgs false
set_option linter.unusedVariables false
namespace Go.Pw
set_option maxRecDepth 2000
open Go Go.Proofs A1 A2 A3 A4
theorem fst_c {a : Int} {l : List Int} (h : a ≠ 0) : fstE (a :: l) = a := by rw [fstE, if_neg h]
theorem fst_z {l : List Int} : fstE (0 :: l) = fstE l := by rw [fstE, if_pos rfl]
abbrev exD : List Dv := [(1, 2, 3), (2, 1, 3), (4, 2, 2)]
abbrev exS : Sc := (4, 2, [((0, 0), (3, 1), true), ((0, 1), (3, 1), false)])
theorem C31 : PFD Tryz.prog 31 [] (.c (trs exD)) := by
  refine pi1 fn31 ?_
  (repeat' first | (refine Owe.same ?_; first | refine Owe.o ?_ | refine Owe.mk ?_ ?_) | (refine Fork.same ?_; (first | refine fkD ?_ ?_ | refine fkN ?_ ?_ | refine fkM ?_ ?_) <;> intro h) | refine MvQ.stay ?_)
  (refine rqK rfl ?_; (repeat' first | exact rfl | (refine qS ?_; constructor)))
theorem C80 {a b c d : Int} {h : Bool} : PFD Tryz.prog 80 [vi .i64 a, vi .i64 b, vi .i64 c, vi .i64 d, vbl h] (ryv ((a, b), (c, d), h)) := by
  refine pi1 fn80 ?_
  (repeat' first | (refine Owe.same ?_; first | refine Owe.o ?_ | refine Owe.mk ?_ ?_) | (refine Fork.same ?_; (first | refine fkD ?_ ?_ | refine fkN ?_ ?_ | refine fkM ?_ ?_) <;> intro h) | refine MvQ.stay ?_)
  (refine rqK rfl ?_; (repeat' first | exact rfl | (refine qS ?_; constructor)))
theorem C36 : PFD Tryz.prog 36 [] (scv exS) := by
  refine pi1 fn36 ?_
  (repeat' first | (refine Owe.same ?_; first | refine Owe.o ?_ | refine Owe.mk ?_ ?_) | (refine Fork.same ?_; (first | refine fkD ?_ ?_ | refine fkN ?_ ?_ | refine fkM ?_ ?_) <;> intro h) | ((first | refine OpsL.same ?_ | refine OpsDL.same ?_); first | refine pK C80 rfl rfl ?_) | refine MvQ.stay ?_)
  (refine rqK rfl ?_; (repeat' first | exact rfl | (refine qS ?_; constructor)))
theorem C39 {a b : Tn} : (a.2.length ≤ 1000000) → PFD Tryz.prog 39 [tv a, tv b] (vbl (decide (a = b))) := fun h => by
  obtain ⟨a1, a2⟩ := a
  obtain ⟨b1, b2⟩ := b
  refine pi1 fn39 ?_
  (repeat' first | (refine Owe.same ?_; first | refine Owe.o ?_ | refine Owe.mk ?_ ?_) | (refine Fork.same ?_; (first | refine fkD ?_ ?_ | refine fkN ?_ ?_ | refine fkM ?_ ?_) <;> intro h) | ((first | refine OpsL.same ?_ | refine OpsDL.same ?_); first | refine pK C40 rfl rfl ?_) | refine MvQ.stay ?_)
  · have h : a1 = b1 := h
    subst h
    (refine rqK rfl ?_; (repeat' first | exact rfl | (refine qS ?_; constructor)))
    simp
  · have h : ¬ a1 = b1 := h
    (refine rqK rfl ?_; (repeat' first | exact rfl | (refine qS ?_; constructor)))
    simp [h]
end Go.Pw

set_option linter.unusedSimpArgs false
set_option linter.unusedVariables false
namespace Go.Pw
set_option maxRecDepth 2000
open Go Go.Proofs A1 A2 A3 A4
theorem C60 {c : Pr} {w g : Int} : ((-1000000 ≤ w ∧ w ≤ 1000000) ∧ -1000000 ≤ g ∧ g ≤ 1000000) → PFD Tryz.prog 60 [pr c, vi .i64 w, vi .i64 g] (vbl (decide (inG c w g))) := fun ⟨hw, hh⟩ => by
  refine pi1 fn60 ?_
  (repeat' first | (refine Owe.same ?_; first | refine Owe.o ?_ | refine Owe.mk ?_ ?_) | (refine Fork.same ?_; (first | refine fkD ?_ ?_ | refine fkN ?_ ?_ | refine fkM ?_ ?_) <;> intro h) | ((first | refine OpsL.same ?_ | refine OpsDL.same ?_); first | refine pK C23 rfl rfl ?_) | refine MvQ.stay ?_)
  · (refine rqK rfl ?_; (repeat' first | exact rfl | (refine qS ?_; constructor)))
    exact decide_eq_decide.2 ⟨fun hh => ⟨h, hh⟩, fun hh => hh.2⟩
  · (refine rqK rfl ?_; (repeat' first | exact rfl | (refine qS ?_; constructor)))
    rw [decide_eq_false]; exact fun hh => h hh.1
theorem C27 {r : Ry} {w g : Int} : ((-1000000 ≤ w ∧ w ≤ 1000000) ∧ -1000000 ≤ g ∧ g ≤ 1000000) → PFD Tryz.prog 27 [ryv r, vi .i64 w, vi .i64 g] (vi .i64 (unl (ryOk r w g) 6)) := fun ⟨hw, hh⟩ => by
  refine pi1 fn27 ?_
  (repeat' first | (refine Owe.same ?_; first | refine Owe.o ?_ | refine Owe.mk ?_ ?_) | (refine Fork.same ?_; (first | refine fkD ?_ ?_ | refine fkN ?_ ?_ | refine fkM ?_ ?_) <;> intro h) | ((first | refine OpsL.same ?_ | refine OpsDL.same ?_); first | refine pK C60 rfl rfl ?_) | refine MvQ.stay ?_)
  · (refine rqK rfl ?_; (repeat' first | exact rfl | (refine qS ?_; constructor)))
    rw [unl, decide_eq_false fun hh => h hh.1]; rfl
  · (refine rqK rfl ?_; (repeat' first | exact rfl | (refine qS ?_; constructor)))
    rw [unl, decide_eq_false fun hh => h hh.2]; rfl
  · rename_i h1
    (refine rqK rfl ?_; (repeat' first | exact rfl | (refine qS ?_; constructor)))
    rw [unl, decide_eq_true ⟨h1, h⟩]; rfl
/-- On which side of a ray the corner k of a cell lies. -/
def sdK (r : Ry) (c : Cel) (k : Int) : Int := (2 * r.2.1.1 + 1 - (2 * r.1.1 + 1)) * (2 * c.2 + 2 * k.tdiv 2 - (2 * r.1.2 + 1)) - (2 * r.2.1.2 + 1 - (2 * r.1.2 + 1)) * (2 * c.1 + 2 * k.tmod 2 - (2 * r.1.1 + 1))
def abK (r : Ry) (c : Cel) : Nat → Bool
  | 0 => false
  | k + 1 => abK r c k || decide (0 < sdK r c k)
def beK (r : Ry) (c : Cel) : Nat → Bool
  | 0 => false
  | k + 1 => beK r c k || decide (sdK r c k < 0)
theorem sides (p q a b : Int) : (((((false || decide (0 < (2 * a) * (2 * p - 1) - (2 * b) * (2 * q - 1))) || decide (0 < (2 * a) * (2 * p - 1) - (2 * b) * (2 * q + 1))) || decide (0 < (2 * a) * (2 * p + 1) - (2 * b) * (2 * q - 1))) || decide (0 < (2 * a) * (2 * p + 1) - (2 * b) * (2 * q + 1))) &&
    ((((false || decide ((2 * a) * (2 * p - 1) - (2 * b) * (2 * q - 1) < 0)) || decide ((2 * a) * (2 * p - 1) - (2 * b) * (2 * q + 1) < 0)) || decide ((2 * a) * (2 * p + 1) - (2 * b) * (2 * q - 1) < 0)) || decide ((2 * a) * (2 * p + 1) - (2 * b) * (2 * q + 1) < 0))) =
    decide (sz (a * 2 * p - b * 2 * q) < sz a + sz b) := by
  have e0 : ∀ x y : Int, 2 * x * (2 * y) = 4 * (x * y) := fun x y => by
    rw [Int.mul_assoc, Int.mul_left_comm x 2 y]; omega
  have e1 : (2 * a) * (2 * p - 1) = 4 * (a * p) - 2 * a := by rw [Int.mul_sub, Int.mul_one, e0]
  have e2 : (2 * a) * (2 * p + 1) = 4 * (a * p) + 2 * a := by rw [Int.mul_add, Int.mul_one, e0]
  have e3 : (2 * b) * (2 * q - 1) = 4 * (b * q) - 2 * b := by rw [Int.mul_sub, Int.mul_one, e0]
  have e4 : (2 * b) * (2 * q + 1) = 4 * (b * q) + 2 * b := by rw [Int.mul_add, Int.mul_one, e0]
  have e5 : a * 2 * p = 2 * (a * p) := by rw [Int.mul_comm a 2, Int.mul_assoc]
  have e6 : b * 2 * q = 2 * (b * q) := by rw [Int.mul_comm b 2, Int.mul_assoc]
  rw [e1, e2, e3, e4, e5, e6, Bool.eq_iff_iff]
  simp only [Bool.false_or, Bool.and_eq_true, Bool.or_eq_true, decide_eq_true_eq]
  simp only [sz]
  generalize a * p = x
  generalize b * q = y
  constructor
  · rintro ⟨((h1 | h1) | h1) | h1, ((h2 | h2) | h2) | h2⟩ <;> omega
  · intro h
    rcases Int.lt_or_le a 0 with ha | ha <;> rcases Int.lt_or_le b 0 with hb | hb <;> constructor <;> omega
theorem abK4 (r : Ry) (c : Cel) : (abK r c 4 && beK r c 4) = decide (sz (r.mid c.1 c.2) < sz r.dx + sz r.dy) := by
  have h := sides (c.2 - r.1.2) (c.1 - r.1.1) r.dx r.dy
  rw [Ry.mid, ← h]
  have e1 : 2 * r.2.1.1 + 1 - (2 * r.1.1 + 1) = 2 * r.dx := by rw [Ry.dx]; omega
  have e2 : 2 * r.2.1.2 + 1 - (2 * r.1.2 + 1) = 2 * r.dy := by rw [Ry.dy]; omega
  have a1 : 2 * c.2 + 2 * 0 - (2 * r.1.2 + 1) = 2 * (c.2 - r.1.2) - 1 := by omega
  have a2 : 2 * c.2 + 2 * 1 - (2 * r.1.2 + 1) = 2 * (c.2 - r.1.2) + 1 := by omega
  have a3 : 2 * c.1 + 2 * 0 - (2 * r.1.1 + 1) = 2 * (c.1 - r.1.1) - 1 := by omega
  have a4 : 2 * c.1 + 2 * 1 - (2 * r.1.1 + 1) = 2 * (c.1 - r.1.1) + 1 := by omega
  have s0 : sdK r c 0 = 2 * r.dx * (2 * (c.2 - r.1.2) - 1) - 2 * r.dy * (2 * (c.1 - r.1.1) - 1) := by rw [← a1, ← a3, ← e1, ← e2]; rfl
  have s1 : sdK r c 1 = 2 * r.dx * (2 * (c.2 - r.1.2) - 1) - 2 * r.dy * (2 * (c.1 - r.1.1) + 1) := by rw [← a1, ← a4, ← e1, ← e2]; rfl
  have s2 : sdK r c 2 = 2 * r.dx * (2 * (c.2 - r.1.2) + 1) - 2 * r.dy * (2 * (c.1 - r.1.1) - 1) := by rw [← a2, ← a3, ← e1, ← e2]; rfl
  have s3 : sdK r c 3 = 2 * r.dx * (2 * (c.2 - r.1.2) + 1) - 2 * r.dy * (2 * (c.1 - r.1.1) + 1) := by rw [← a2, ← a4, ← e1, ← e2]; rfl
  rw [← s0, ← s1, ← s2, ← s3]; rfl
/-- A cell in the rectangle of both ends. -/
abbrev inR (r : Ry) (c : Cel) : Prop := (r.x0 ≤ c.1 ∧ c.1 < r.x0 + r.wn) ∧ r.y0 ≤ c.2 ∧ c.2 < r.y0 + r.hn
theorem C59 {r : Ry} {c : Pr} : (ryOk r 12 12 ∧ inG c 12 12) → PFD Tryz.prog 59 [ryv r, pr c] (vbl (decide (c ∈ crS r))) := fun ⟨hO, hc⟩ => by
  have e : decide (c ∈ crS r) = (decide (inR r c) && (decide (r.1.1 = r.2.1.1 ∧ r.1.2 = r.2.1.2) || abK r c 4 && beK r c 4)) := by
    rw [abK4, Bool.eq_iff_iff]
    simp only [Bool.and_eq_true, Bool.or_eq_true, decide_eq_true_eq]
    rw [crS_mem, crs, decide_eq_true_eq]
    simp only [Ry.dx, Ry.dy]
    constructor
    · rintro ⟨h1, h2⟩; exact ⟨h2, by omega⟩
    · rintro ⟨h1, h2⟩; exact ⟨by omega, h1⟩
  rw [e]
  obtain ⟨⟨fx, fy⟩, ⟨tx, ty⟩, b⟩ := r
  obtain ⟨cx, cy⟩ := c
  simp only [ryOk, inG] at hO hc
  have hR : inR ((fx, fy), (tx, ty), b) (cx, cy) ↔ (min fx tx ≤ cx ∧ cx ≤ max fx tx) ∧ min fy ty ≤ cy ∧ cy ≤ max fy ty := by
    simp only [inR, Ry.x0, Ry.y0, Ry.wn, Ry.hn, Ry.dx, Ry.dy, sz]; omega
  refine pi1 fn59 ?_
  (repeat' first | (refine Owe.same ?_; first | refine Owe.o ?_ | refine Owe.mk ?_ ?_) | (refine Fork.same ?_; (first | refine fkD ?_ ?_ | refine fkN ?_ ?_ | refine fkM ?_ ?_) <;> intro h) | refine MvQ.stay ?_)
  · have h9 : ¬ inR ((fx, fy), (tx, ty), b) (cx, cy) := by rw [hR]; simp only at h; omega
    (refine rqK rfl ?_; (repeat' first | exact rfl | (refine qS ?_; constructor)))
    rw [decide_eq_false h9]; rfl
  · have h9 : ¬ inR ((fx, fy), (tx, ty), b) (cx, cy) := by rw [hR]; simp only at h; omega
    (refine rqK rfl ?_; (repeat' first | exact rfl | (refine qS ?_; constructor)))
    rw [decide_eq_false h9]; rfl
  · have h9 : ¬ inR ((fx, fy), (tx, ty), b) (cx, cy) := by rw [hR]; simp only at h; omega
    (refine rqK rfl ?_; (repeat' first | exact rfl | (refine qS ?_; constructor)))
    rw [decide_eq_false h9]; rfl
  · have h9 : ¬ inR ((fx, fy), (tx, ty), b) (cx, cy) := by rw [hR]; simp only at h; omega
    (refine rqK rfl ?_; (repeat' first | exact rfl | (refine qS ?_; constructor)))
    rw [decide_eq_false h9]; rfl
  · rename_i h1 h2 h3
    have h9 : inR ((fx, fy), (tx, ty), b) (cx, cy) := by rw [hR]; simp only at h h1 h2 h3; omega
    rw [decide_eq_true h9, Bool.true_and]
    clear h h1 h2 h3 h9
    (repeat' first | (refine Owe.same ?_; first | refine Owe.o ?_ | refine Owe.mk ?_ ?_) | (refine Fork.same ?_; (first | refine fkD ?_ ?_ | refine fkN ?_ ?_ | refine fkM ?_ ?_) <;> intro h) | refine MvQ.stay ?_)
    refine Sat.lp0 (fun k : Nat => [(11, vi .i64 k), (9, vbl (abK ((fx, fy), (tx, ty), b) (cx, cy) k)), (10, vbl (beK ((fx, fy), (tx, ty), b) (cx, cy) k)), (5, vi .i64 (2 * fx + 1)), (6, vi .i64 (2 * fy + 1)), (7, vi .i64 (2 * tx + 1)), (8, vi .i64 (2 * ty + 1)), (2, .c (.rp (r5 ((fx, fy), (tx, ty), b)))), (3, .c (.rp (r2 (cx, cy))))]) (fun k => k ≤ 4) (fun k => 4 - k) 0 (by decide) (by ((first | refine qen ?_ | refine qvs ?_ | refine qeq ?_ | refine qst ?_ | refine qv ?_ | refine qc ?_ | refine qe ?_ | refine qcs ?_ | skip); (repeat' first | exact rfl | (refine qS ?_; constructor)))) ?_
    intro k hk
    refine Fork.dec (fun hlt => ?_) (fun hlt => ?_)
    · have hlt : k < 4 := by omega
      have e1 : 0 ≤ (k : Int).tmod 2 ∧ (k : Int).tmod 2 ≤ 1 := by rw [Int.tmod_eq_emod_of_nonneg (by omega)]; omega
      have e2 : 0 ≤ (k : Int).tdiv 2 ∧ (k : Int).tdiv 2 ≤ 1 := by rw [Int.tdiv_eq_ediv_of_nonneg (by omega)]; omega
      have m1 := mbd (a := 2 * tx + 1 - (2 * fx + 1)) (b := 2 * cy + 2 * (k : Int).tdiv 2 - (2 * fy + 1)) (A := 100) (B := 100) (by omega) (by omega)
      have m2 := mbd (a := 2 * ty + 1 - (2 * fy + 1)) (b := 2 * cx + 2 * (k : Int).tmod 2 - (2 * fx + 1)) (A := 100) (B := 100) (by omega) (by omega)
      (repeat' first | (refine Owe.same ?_; first | refine Owe.o ?_ | refine Owe.mk ?_ ?_) | (refine Fork.same ?_; (first | refine fkD ?_ ?_ | refine fkN ?_ ?_ | refine fkM ?_ ?_) <;> intro h) | refine MvQ.stay ?_)
      all_goals (refine again0 (k + 1) hlt (by omega) ?_; ((first | refine qen ?_ | refine qvs ?_ | refine qeq ?_ | refine qst ?_ | refine qv ?_ | refine qc ?_ | refine qe ?_ | refine qcs ?_ | skip); (repeat' first | exact rfl | (refine qS ?_; constructor))))
      all_goals (simp only [abK, beK, *, Bool.true_or, Bool.false_or] <;> rfl)
    · have : k = 4 := by omega
      subst this
      (repeat' first | (refine Owe.same ?_; first | refine Owe.o ?_ | refine Owe.mk ?_ ?_) | (refine Fork.same ?_; (first | refine fkD ?_ ?_ | refine fkN ?_ ?_ | refine fkM ?_ ?_) <;> intro h) | refine MvQ.stay ?_)
      · have h : (decide (fx = tx) && decide (fy = ty)) = true := h
        rw [← Bool.decide_and, decide_eq_true_eq] at h
        (refine rqK rfl ?_; (repeat' first | exact rfl | (refine qS ?_; constructor)))
        rw [decide_eq_true h]; rfl
      · rename_i h1
        have h1 : (decide (fx = tx) && decide (fy = ty)) = false := h1
        rw [← Bool.decide_and, decide_eq_false_iff_not] at h1
        (refine rqK rfl ?_; (repeat' first | exact rfl | (refine qS ?_; constructor)))
        rw [decide_eq_false h1, h]; rfl
      · rename_i h1
        have h1 : (decide (fx = tx) && decide (fy = ty)) = false := h1
        rw [← Bool.decide_and, decide_eq_false_iff_not] at h1
        (refine rqK rfl ?_; (repeat' first | exact rfl | (refine qS ?_; constructor)))
        rw [decide_eq_false h1, h]; rfl
def rcC (r : Ry) (y x : Int) : List Cel := if (x, y) ∈ crS r then [(x, y)] else []
def refCr (r : Ry) (w g : Nat) : List Cel := catR (fun y => catR (rcC r y) 0 w) 0 g
theorem rcC_in {r : Ry} {x y : Int} (h : (x, y) ∈ crS r) : rcC r y x = [(x, y)] := by rw [rcC]; split; rfl; contradiction
theorem rcC_out {r : Ry} {x y : Int} (h : ¬ (x, y) ∈ crS r) : rcC r y x = [] := by rw [rcC]; split; contradiction; rfl
theorem refCr_eq {r : Ry} {w g : Nat} (hO : ryOk r w g) : refCr r w g = crS r := by
  have hx : 0 ≤ r.x0 ∧ r.x0 + r.wn ≤ w := by
    simp only [ryOk, inG] at hO; simp only [Ry.x0, Ry.wn, Ry.dx, sz]; omega
  have hy : 0 ≤ r.y0 ∧ r.y0 + r.hn ≤ g := by
    simp only [ryOk, inG] at hO; simp only [Ry.y0, Ry.hn, Ry.dy, sz]; omega
  have hn : ∀ x y : Int, (x < r.x0 ∨ r.x0 + r.wn ≤ x ∨ y < r.y0 ∨ r.y0 + r.hn ≤ y) → rcC r y x = [] := fun x y h => rcC_out fun hm => by
    obtain ⟨⟨h1, h2⟩, h3, h4⟩ : (r.x0 ≤ x ∧ x < r.x0 + r.wn) ∧ r.y0 ≤ y ∧ y < r.y0 + r.hn := (crS_mem.1 hm).2
    omega
  rw [refCr, catR_sub hy.1 hy.2 fun y hy' => catR_nil fun i hi => hn _ _ (by omega), crS]
  refine catR_congr fun i hi => ?_
  rw [catR_sub hx.1 hx.2 fun x hx' => hn _ _ (by omega), crR]
  refine catR_congr fun j hj => ?_
  have hm : inR r (r.x0 + (j : Int), r.y0 + (i : Int)) := ⟨⟨Int.le_add_of_nonneg_right (Int.natCast_nonneg _), Int.add_lt_add_left (Int.ofNat_lt.2 hj) _⟩, Int.le_add_of_nonneg_right (Int.natCast_nonneg _), Int.add_lt_add_left (Int.ofNat_lt.2 hi) _⟩
  generalize r.x0 + (j : Int) = x at hm ⊢
  generalize r.y0 + (i : Int) = y at hm ⊢
  by_cases h : crs r x y = true
  · have h9 : (x, y) ∈ crS r := crS_mem.2 ⟨h, hm⟩
    rw [rcC_in h9, crC, if_pos h]
  · have h9 : ¬ (x, y) ∈ crS r := fun hh => h (crS_mem.1 hh).1
    rw [rcC_out h9, crC, if_neg h]
theorem rcC_len (r : Ry) (y x : Int) : (rcC r y x).length ≤ 1 := by rw [rcC]; split <;> simp
end Go.Pw

set_option linter.unusedSimpArgs false
set_option linter.unusedVariables false
namespace Go.Pw
set_option maxRecDepth 2000
open Go Go.Proofs A1 A2 A3 A4
abbrev grdE (w g : Int) : Int := unl ((1 ≤ w ∧ w ≤ 12) ∧ 1 ≤ g ∧ g ≤ 12) 2
theorem C94 {w g : Int} : PFD Tryz.prog 94 [vi .i64 w, vi .i64 g] (vi .i64 (grdE w g)) := by
  refine pi1 fn94 ?_
  (repeat' first | (refine Owe.same ?_; first | refine Owe.o ?_ | refine Owe.mk ?_ ?_) | (refine Fork.same ?_; (first | refine fkD ?_ ?_ | refine fkN ?_ ?_ | refine fkM ?_ ?_) <;> intro h) | ((first | refine OpsL.same ?_ | refine OpsDL.same ?_); first | refine pK C23 rfl rfl ?_) | refine MvQ.stay ?_)
  · (refine rqK rfl ?_; (repeat' first | exact rfl | (refine qS ?_; constructor)))
    rw [grdE, unl, decide_eq_false fun hh => h hh.1]; rfl
  · (refine rqK rfl ?_; (repeat' first | exact rfl | (refine qS ?_; constructor)))
    rw [grdE, unl, decide_eq_false fun hh => h hh.2]; rfl
  · rename_i h1
    (refine rqK rfl ?_; (repeat' first | exact rfl | (refine qS ?_; constructor)))
    rw [grdE, unl, decide_eq_true ⟨h1, h⟩]; rfl
theorem eachE_e {α : Type} {f : α → Int} {d : α} {l : List α} {k : Nat} (h : ∀ i, i < k → f (l.getD i d) = 0) (hk : k < l.length) (hx : ¬ f (l.getD k d) = 0) : eachE f 0 l = ((k : Int), f (l.getD k d)) := by
  have : ∀ j, j ≤ k → eachE f 0 l = eachE f j (l.drop j) := fun j => by
    induction j with
    | zero => intro _; simp
    | succ j ih => intro hj; rw [ih (by omega), eachE_drop _ d l j (by omega), if_pos (h j (by omega))]
  rw [this k (Nat.le_refl _), eachE_drop _ d l k hk, if_neg hx]
theorem eachE_z {α : Type} {f : α → Int} {d : α} {l : List α} (h : ∀ i, i < l.length → f (l.getD i d) = 0) : eachE f 0 l = (0, 0) := by
  have h1 : (eachE f 0 l).2 = 0 := eachE_ok.2 fun x hx => by
    obtain ⟨i, hi, rfl⟩ := List.getElem_of_mem hx
    have := h i hi
    rwa [List.getD_eq_getElem?_getD, List.getElem?_eq_getElem hi] at this
  exact Prod.ext (eachE_fst h1) h1
theorem C54 {s : Sc} : PFD Tryz.prog 54 [scv s] (.tup [vi .i64 (scE s).1, vi .i64 (scE s).2]) := by
  obtain ⟨w, g, l⟩ := s
  have c87 := C94 (w := w) (g := g)
  by_cases h0 : (1 ≤ w ∧ w ≤ 12) ∧ 1 ≤ g ∧ g ≤ 12
  · rw [show grdE w g = 0 from (unl0 (by decide)).2 h0] at c87
    by_cases h1 : l.length ≤ 10
    · have hg : gridE w g l.length = 0 := gridE_ok.2 ⟨h0, by omega⟩
      have he : scE (w, g, l) = eachE (fun r => unl (ryOk r w g) 6) 0 l := by rw [scE, if_pos hg]
      obtain ⟨q, hq⟩ : ∃ q, q = scE (w, g, l) := ⟨_, rfl⟩
      rw [← hq]
      rw [← hq] at he
      have h1' : ((w, g, l) : Sc).2.2.length ≤ 10 := h1
      refine pi2 fn54 ?_
      (repeat' first | (refine Owe.same ?_; first | refine Owe.o ?_ | refine Owe.mk ?_ ?_) | (refine Fork.same ?_; (first | refine fkY ?_ | refine fkF ?_ | ((first | refine fkD ?_ ?_ | refine fkN ?_ ?_ | refine fkM ?_ ?_) <;> intro h))) | ((first | refine OpsL.same ?_ | refine OpsDL.same ?_); first | refine oK c87 rfl rfl rfl ?_) | refine MvQ.stay ?_)
      refine Sat.lp0 (fun k : Nat => [(5, vi .i64 k), (1, .c (.rp (scD (w, g, l))))]) (fun k => k ≤ l.length ∧ ∀ i, i < k → unl (ryOk (l.getD i ryd) w g) 6 = 0) (fun k => l.length - k) 0 ⟨Nat.zero_le _, fun i hi => by omega⟩ (by ((first | refine qen ?_ | refine qvs ?_ | refine qeq ?_ | refine qst ?_ | refine qv ?_ | refine qc ?_ | refine qe ?_ | refine qcs ?_ | skip); (repeat' first | exact rfl | (refine qS ?_; constructor)))) ?_
      intro k hk
      refine Fork.dec (fun hlt => ?_) (fun hlt => ?_)
      · have hlt : k < l.length := Int.ofNat_lt.1 hlt
        have c45 := C27 (r := l.getD k ryd) (w := w) (g := g) ⟨by omega, by omega⟩
        have e := eachE_e (f := fun r => unl (ryOk r w g) 6) (d := ryd) hk.2 hlt
        by_cases hr : unl (ryOk (l.getD k ryd) w g) 6 = 0
        · rw [hr] at c45
          (repeat' first | (refine Owe.same ?_; first | refine Owe.o ?_ | refine Owe.mk ?_ ?_) | (refine Fork.same ?_; (first | refine fkY ?_ | refine fkF ?_ | ((first | refine fkD ?_ ?_ | refine fkN ?_ ?_ | refine fkM ?_ ?_) <;> intro h))) | ((first | refine OpsL.same ?_ | refine OpsDL.same ?_); first | refine oK c45 rfl rfl rfl ?_) | refine MvQ.stay ?_)
          refine again0 (k + 1) ⟨hlt, fun i hi => ?_⟩ (by omega) (by ((first | refine qen ?_ | refine qvs ?_ | refine qeq ?_ | refine qst ?_ | refine qv ?_ | refine qc ?_ | refine qe ?_ | refine qcs ?_ | skip); (repeat' first | exact rfl | (refine qS ?_; constructor))))
          rcases Nat.lt_succ_iff_lt_or_eq.1 hi with h9 | rfl
          · exact hk.2 i h9
          · exact hr
        · have e := e hr
          rw [he, e]
          generalize unl (ryOk (l.getD k ryd) w g) 6 = z at *
          (repeat' first | (refine Owe.same ?_; first | refine Owe.o ?_ | refine Owe.mk ?_ ?_) | (refine Fork.same ?_; (first | refine fkY ?_ | refine fkF ?_ | ((first | refine fkD ?_ ?_ | refine fkN ?_ ?_ | refine fkM ?_ ?_) <;> intro h))) | ((first | refine OpsL.same ?_ | refine OpsDL.same ?_); first | refine oK c45 rfl rfl rfl ?_) | refine MvQ.stay ?_)
          (refine rqK rfl ?_; (repeat' first | exact rfl | (refine qS ?_; constructor)))
      · have hlt : ¬ ((k : Int) < (l.length : Int)) := hlt
        have : q = (0, 0) := he.trans (eachE_z (d := ryd) fun i hi => hk.2 i (by omega))
        subst this
        (repeat' first | (refine Owe.same ?_; first | refine Owe.o ?_ | refine Owe.mk ?_ ?_) | (refine Fork.same ?_; (first | refine fkY ?_ | refine fkF ?_ | ((first | refine fkD ?_ ?_ | refine fkN ?_ ?_ | refine fkM ?_ ?_) <;> intro h))) | ((first | refine OpsL.same ?_ | refine OpsDL.same ?_); first | refine oK c87 rfl rfl rfl ?_) | refine MvQ.stay ?_)
        (refine rqK rfl ?_; (repeat' first | exact rfl | (refine qS ?_; constructor)))
    · have e : scE (w, g, l) = (0, 8) := by
        have : gridE w g l.length = 8 := by
          rw [gridE, fstE, if_pos ((unl0 (by decide)).2 h0), fstE, unl, decide_eq_false (by omega)]; rfl
        rw [scE]; simp only [this]; rfl
      rw [e]
      have h1' : ¬ ((w, g, l) : Sc).2.2.length ≤ 10 := h1
      refine pi2 fn54 ?_
      (repeat' first | (refine Owe.same ?_; first | refine Owe.o ?_ | refine Owe.mk ?_ ?_) | (refine Fork.same ?_; (first | refine fkY ?_ | refine fkF ?_ | ((first | refine fkD ?_ ?_ | refine fkN ?_ ?_ | refine fkM ?_ ?_) <;> intro h))) | ((first | refine OpsL.same ?_ | refine OpsDL.same ?_); first | refine oK c87 rfl rfl rfl ?_) | refine MvQ.stay ?_)
      (refine rqK rfl ?_; (repeat' first | exact rfl | (refine qS ?_; constructor)))
  · have e2 : grdE w g = 2 := by rw [grdE, unl, decide_eq_false h0]; rfl
    have e : scE (w, g, l) = (0, 2) := by
      have : gridE w g l.length = 2 := by
        rw [gridE, show unl ((1 ≤ w ∧ w ≤ 12) ∧ 1 ≤ g ∧ g ≤ 12) 2 = 2 from e2]; rfl
      rw [scE]; simp only [this]; rfl
    rw [e2] at c87
    rw [e]
    refine pi2 fn54 ?_
    (repeat' first | (refine Owe.same ?_; first | refine Owe.o ?_ | refine Owe.mk ?_ ?_) | (refine Fork.same ?_; (first | refine fkY ?_ | refine fkF ?_ | ((first | refine fkD ?_ ?_ | refine fkN ?_ ?_ | refine fkM ?_ ?_) <;> intro h))) | ((first | refine OpsL.same ?_ | refine OpsDL.same ?_); first | refine oK c87 rfl rfl rfl ?_) | refine MvQ.stay ?_)
    (refine rqK rfl ?_; (repeat' first | exact rfl | (refine qS ?_; constructor)))
theorem C21 {s : Sc} : PFD Tryz.prog 21 [scv s] (vi .i64 (scE s).2) := by
  refine pi1 fn21 ?_
  (repeat' first | (refine Owe.same ?_; first | refine Owe.o ?_ | refine Owe.mk ?_ ?_) | (refine Fork.same ?_; (first | refine fkD ?_ ?_ | refine fkN ?_ ?_ | refine fkM ?_ ?_) <;> intro h) | ((first | refine OpsL.same ?_ | refine OpsDL.same ?_); first | refine pK C54 rfl rfl ?_) | refine MvQ.stay ?_)
  (refine rqK rfl ?_; (repeat' first | exact rfl | (refine qS ?_; constructor)))
theorem C11 {s : Sc} : s.2.2.length ≤ 1000000 → PFD Tryz.prog 11 [scv s] (scv s) := fun h => by
  refine pi1 fn11 ?_
  (repeat' first | (refine Owe.same ?_; first | refine Owe.o ?_ | refine Owe.mk ?_ ?_) | (refine Fork.same ?_; (first | refine fkD ?_ ?_ | refine fkN ?_ ?_ | refine fkM ?_ ?_) <;> intro h) | refine MvQ.stay ?_)
  (refine rqK rfl ?_; (repeat' first | exact rfl | (refine qS ?_; constructor)))
/-- The error of two scenes that are merged. -/
def meE (a b : Sc) : Int := fstE [(scE a).2, (scE b).2, unl (a.1 = b.1 ∧ a.2.1 = b.2.1) 13, unl ((a.2.2.length : Int) + b.2.2.length ≤ 10) 8]
abbrev rR (l : List Ry) : List D := [rysD l]
abbrev rrs (L : List (List Ry)) : C := slv 1 rR [] L
theorem flat_take {L : List (List Ry)} {k : Nat} (h : k < L.length) : (L.take (k + 1)).flatten = (L.take k).flatten ++ L.getD k [] := by
  rw [List.take_add_one, List.flatten_append, List.getElem?_eq_getElem h, List.getD_eq_getElem?_getD, List.getElem?_eq_getElem h]; simp
theorem flat_le {L : List (List Ry)} (k : Nat) : (L.take k).flatten.length ≤ L.flatten.length := by
  have : L.flatten = (L.take k).flatten ++ (L.drop k).flatten := by rw [← List.flatten_append, List.take_append_drop]
  rw [this]; simp
theorem C57 {L : List (List Ry)} : (L.length ≤ 1000000 ∧ L.flatten.length ≤ 1000000) → PFD Tryz.prog 57 [.c (rrs L)] (.c (rys L.flatten)) := fun ⟨hL, hF⟩ => by
  have hfl := flat_le (L := L)
  refine pi1 fn57 ?_
  (repeat' first | (refine Owe.same ?_; first | refine Owe.o ?_ | refine Owe.mk ?_ ?_) | (refine Fork.same ?_; (first | refine fkD ?_ ?_ | refine fkN ?_ ?_ | refine fkM ?_ ?_) <;> intro h) | refine MvQ.stay ?_)
  refine Sat.lp0 (fun k : Nat => [(11, vi .i64 k), (10, vi .i64 L.length), (9, .c (rrs L)), (0, .c (rrs L)), (3, vi .i64 (L.take k).flatten.length)]) (fun k => k ≤ L.length) (fun k => L.length - k) 0 (Nat.zero_le _) (by ((first | refine qen ?_ | refine qvs ?_ | refine qeq ?_ | refine qst ?_ | refine qv ?_ | refine qc ?_ | refine qe ?_ | refine qcs ?_ | skip); (repeat' first | exact rfl | (refine qS ?_; constructor)))) ?_
  intro k hk
  refine Fork.dec (fun hlt => ?_) (fun hlt => ?_)
  · have hlt : k < L.length := by omega
    have e := flat_take hlt
    have e1 := congrArg List.length e
    rw [List.length_append] at e1
    have h1 := hfl (k + 1)
    have h2 := hfl k
    (repeat' first | (refine Owe.same ?_; first | refine Owe.o ?_ | refine Owe.mk ?_ ?_) | (refine Fork.same ?_; (first | refine fkY ?_ | refine fkF ?_ | ((first | refine fkD ?_ ?_ | refine fkN ?_ ?_ | refine fkM ?_ ?_) <;> intro h))) | ((first | refine OpsL.same ?_ | refine OpsDL.same ?_); first | refine oK C94 rfl rfl rfl ?_) | refine MvQ.stay ?_)
    refine again0 (k + 1) hlt (by omega) ?_
    rw [e1]
    ((first | refine qen ?_ | refine qvs ?_ | refine qeq ?_ | refine qst ?_ | refine qv ?_ | refine qc ?_ | refine qe ?_ | refine qcs ?_ | skip); (repeat' first | exact rfl | (refine qS ?_; constructor)))
  · have : k = L.length := by omega
    subst this
    have e0 : (L.take L.length).flatten = L.flatten := by rw [List.take_length]
    rw [e0]
    (repeat' first | (refine Owe.same ?_; first | refine Owe.o ?_ | refine Owe.mk ?_ ?_) | (refine Fork.same ?_; (first | refine fkD ?_ ?_ | refine fkN ?_ ?_ | refine fkM ?_ ?_) <;> intro h) | refine MvQ.stay ?_)
    refine Ops.cs rfl rfl (CallS.of fn95 rfl ?_)
    by_cases h0 : L.flatten.length = 0
    · (repeat' first | (refine Owe.same ?_; first | refine Owe.o ?_ | refine Owe.mk ?_ ?_) | (refine Fork.same ?_; (first | refine fkY ?_ | refine fkF ?_ | ((first | refine fkD ?_ ?_ | refine fkN ?_ ?_ | refine fkM ?_ ?_) <;> intro h))) | ((first | refine OpsL.same ?_ | refine OpsDL.same ?_); first | refine oK C94 rfl rfl rfl ?_) | refine MvQ.stay ?_)
      refine Sat.nilS 6 51 5 (fun i => r5 (([] : List Ry).getD i ryd)) rfl ?_
      refine Sat.lp (fun k : Nat => ⟨[(27, vi .i64 k), (26, vi .i64 L.length), (25, .c (rrs L)), (6, .c (.ms 0 (L.take k).flatten.length))], [(0, rowv 51 5 r5 ryd (L.take k).flatten)], 1⟩)
        (fun k => k ≤ L.length) (fun k => L.length - k) 0 [0] (Nat.zero_le _) ?_ ?_
      · (refine qis ?_ ?_ <;> (repeat' first | exact rfl | (refine qS ?_; constructor)))
      · intro k hk
        refine Fork.dec (fun hlt => ?_) (fun hlt => ?_)
        · have hlt : k < L.length := by omega
          have e := flat_take hlt
          have e1 := congrArg List.length e
          rw [List.length_append] at e1
          have h1 := hfl (k + 1)
          (repeat' first | (refine Owe.same ?_; first | refine Owe.o ?_ | refine Owe.mk ?_ ?_) | (refine Fork.same ?_; (first | refine fkY ?_ | refine fkF ?_ | ((first | refine fkD ?_ ?_ | refine fkN ?_ ?_ | refine fkM ?_ ?_) <;> intro h))) | ((first | refine OpsL.same ?_ | refine OpsDL.same ?_); first | refine oK C94 rfl rfl rfl ?_) | refine MvQ.stay ?_)
          refine again (k + 1) [1] hlt (by omega) ?_
          (refine qis ?_ ?_ <;> (repeat' first | exact rfl | (refine qS ?_; constructor)))
          · exact e1.symm
          · exact e
        · have : k = L.length := by omega
          subst this
          (repeat' first | (refine Owe.same ?_; first | refine Owe.o ?_ | refine Owe.mk ?_ ?_) | (refine Fork.same ?_; (first | refine fkY ?_ | refine fkF ?_ | ((first | refine fkD ?_ ?_ | refine fkN ?_ ?_ | refine fkM ?_ ?_) <;> intro h))) | ((first | refine OpsL.same ?_ | refine OpsDL.same ?_); first | refine oK C94 rfl rfl rfl ?_) | refine MvQ.stay ?_)
          rw [← e0]
          refine rqF 0 _ rfl rfl rfl ?_; (repeat' first | exact rfl | (refine qS ?_; constructor))
    · (repeat' first | (refine Owe.same ?_; first | refine Owe.o ?_ | refine Owe.mk ?_ ?_) | (refine Fork.same ?_; (first | refine fkY ?_ | refine fkF ?_ | ((first | refine fkD ?_ ?_ | refine fkN ?_ ?_ | refine fkM ?_ ?_) <;> intro h))) | ((first | refine OpsL.same ?_ | refine OpsDL.same ?_); first | refine oK C94 rfl rfl rfl ?_) | refine MvQ.stay ?_)
      refine Sat.lp (fun k : Nat => ⟨[(27, vi .i64 k), (26, vi .i64 L.length), (25, .c (rrs L)), (6, .c (.ms 0 (L.take k).flatten.length))], [(0, rowv 51 5 r5 ryd (L.take k).flatten)], 1⟩)
        (fun k => k ≤ L.length) (fun k => L.length - k) 0 [1] (Nat.zero_le _) ?_ ?_
      · (refine qis ?_ ?_ <;> (repeat' first | exact rfl | (refine qS ?_; constructor)))
      · intro k hk
        refine Fork.dec (fun hlt => ?_) (fun hlt => ?_)
        · have hlt : k < L.length := by omega
          have e := flat_take hlt
          have e1 := congrArg List.length e
          rw [List.length_append] at e1
          have h1 := hfl (k + 1)
          (repeat' first | (refine Owe.same ?_; first | refine Owe.o ?_ | refine Owe.mk ?_ ?_) | (refine Fork.same ?_; (first | refine fkY ?_ | refine fkF ?_ | ((first | refine fkD ?_ ?_ | refine fkN ?_ ?_ | refine fkM ?_ ?_) <;> intro h))) | ((first | refine OpsL.same ?_ | refine OpsDL.same ?_); first | refine oK C94 rfl rfl rfl ?_) | refine MvQ.stay ?_)
          refine again (k + 1) [1] hlt (by omega) ?_
          (refine qis ?_ ?_ <;> (repeat' first | exact rfl | (refine qS ?_; constructor)))
          · exact e1.symm
          · exact e
        · have : k = L.length := by omega
          subst this
          (repeat' first | (refine Owe.same ?_; first | refine Owe.o ?_ | refine Owe.mk ?_ ?_) | (refine Fork.same ?_; (first | refine fkY ?_ | refine fkF ?_ | ((first | refine fkD ?_ ?_ | refine fkN ?_ ?_ | refine fkM ?_ ?_) <;> intro h))) | ((first | refine OpsL.same ?_ | refine OpsDL.same ?_); first | refine oK C94 rfl rfl rfl ?_) | refine MvQ.stay ?_)
          rw [← e0]
          refine rqF 0 _ rfl rfl rfl ?_; (repeat' first | exact rfl | (refine qS ?_; constructor))
/-- Two scenes merged. -/
def meR (a b : Sc) : Sc × Int := if meE a b = 0 then ((a.1, a.2.1, a.2.2 ++ b.2.2), 0) else ((0, 0, []), meE a b)
theorem C25 {a b : Sc} : (a.2.2.length ≤ 1000000 ∧ b.2.2.length ≤ 1000000) → PFD Tryz.prog 25 [scv a, scv b] (.tup [scv (meR a b).1, vi .i64 (meR a b).2]) := fun ⟨ha, hb⟩ => by
  have c1 := C49 ha
  have c2 := C49 hb
  have c72 := C57 (L := [a.2.2, b.2.2])
  rw [show [a.2.2, b.2.2].flatten = a.2.2 ++ b.2.2 by simp] at c72
  have hb1 : a.1 = b.1 → fstE [(scE a).2, (scE b).2, unb (decide (a.2.1 = b.2.1)) 13, unb (decide ((a.2.2.length : Int) + b.2.2.length ≤ 10)) 8] = meE a b := fun h => by
    rw [meE]
    simp only [unl]
    rw [show decide (a.1 = b.1 ∧ a.2.1 = b.2.1) = decide (a.2.1 = b.2.1) from decide_eq_decide.2 ⟨fun h2 => h2.2, fun h2 => ⟨h, h2⟩⟩]
  have hb2 : ¬ a.1 = b.1 → fstE [(scE a).2, (scE b).2, unb false 13, unb (decide ((a.2.2.length : Int) + b.2.2.length ≤ 10)) 8] = meE a b := fun h => by
    rw [meE]
    simp only [unl]
    rw [show decide (a.1 = b.1 ∧ a.2.1 = b.2.1) = false from decide_eq_false fun hh => h hh.1]
  by_cases h0 : meE a b = 0
  · have hr : meR a b = ((a.1, a.2.1, a.2.2 ++ b.2.2), 0) := by rw [meR, if_pos h0]
    rw [hr]
    have hl : a.2.2.length + b.2.2.length ≤ 10 := by
      rw [meE, fst0, fst0, fst2] at h0
      have := (unl0 (by decide)).1 h0.2.2.2
      omega
    have c72 := c72 ⟨by simp, by simp; omega⟩
    generalize (scE a).2 = x at *
    generalize (scE b).2 = y at *
    generalize a.2.2 ++ b.2.2 = M at *
    refine pi2 fn25 ?_
    (repeat' first | (refine Owe.same ?_; first | refine Owe.o ?_ | refine Owe.mk ?_ ?_) | (refine Fork.same ?_; (first | refine fkD ?_ ?_ | refine fkN ?_ ?_ | refine fkM ?_ ?_) <;> intro h) | refine MvQ.stay ?_)
    ((first | refine OpsL.same ?_ | refine OpsDL.same ?_); first | refine pK c1 rfl rfl ?_)
    (repeat' first | (refine Owe.same ?_; first | refine Owe.o ?_ | refine Owe.mk ?_ ?_) | (refine Fork.same ?_; (first | refine fkD ?_ ?_ | refine fkN ?_ ?_ | refine fkM ?_ ?_) <;> intro h) | refine MvQ.stay ?_)
    ((first | refine OpsL.same ?_ | refine OpsDL.same ?_); first | refine pK c2 rfl rfl ?_)
    (repeat' first | (refine Owe.same ?_; first | refine Owe.o ?_ | refine Owe.mk ?_ ?_) | (refine Fork.same ?_; (first | refine fkD ?_ ?_ | refine fkN ?_ ?_ | refine fkM ?_ ?_) <;> intro h) | ((first | refine OpsL.same ?_ | refine OpsDL.same ?_); first | refine pK C56 rfl rfl ?_ | refine pK C55 rfl rfl ?_) | refine MvQ.stay ?_)
    all_goals rename_i h1
    · exact absurd ((hb1 h1).trans h0) h
    · (repeat' first | (refine Owe.same ?_; first | refine Owe.o ?_ | refine Owe.mk ?_ ?_) | (refine Fork.same ?_; (first | refine fkD ?_ ?_ | refine fkN ?_ ?_ | refine fkM ?_ ?_) <;> intro h) | ((first | refine OpsL.same ?_ | refine OpsDL.same ?_); first | refine pK c72 rfl rfl ?_) | refine MvQ.stay ?_)
      (refine rqK rfl ?_; (repeat' first | exact rfl | (refine qS ?_; constructor)))
    · exact absurd ((hb2 h1).trans h0) h
    · (repeat' first | (refine Owe.same ?_; first | refine Owe.o ?_ | refine Owe.mk ?_ ?_) | (refine Fork.same ?_; (first | refine fkD ?_ ?_ | refine fkN ?_ ?_ | refine fkM ?_ ?_) <;> intro h) | ((first | refine OpsL.same ?_ | refine OpsDL.same ?_); first | refine pK c72 rfl rfl ?_) | refine MvQ.stay ?_)
      (refine rqK rfl ?_; (repeat' first | exact rfl | (refine qS ?_; constructor)))
  · have hr : meR a b = ((0, 0, []), meE a b) := by rw [meR, if_neg h0]
    rw [hr]
    generalize (scE a).2 = x at *
    generalize (scE b).2 = y at *
    refine pi2 fn25 ?_
    (repeat' first | (refine Owe.same ?_; first | refine Owe.o ?_ | refine Owe.mk ?_ ?_) | (refine Fork.same ?_; (first | refine fkD ?_ ?_ | refine fkN ?_ ?_ | refine fkM ?_ ?_) <;> intro h) | refine MvQ.stay ?_)
    ((first | refine OpsL.same ?_ | refine OpsDL.same ?_); first | refine pK c1 rfl rfl ?_)
    (repeat' first | (refine Owe.same ?_; first | refine Owe.o ?_ | refine Owe.mk ?_ ?_) | (refine Fork.same ?_; (first | refine fkD ?_ ?_ | refine fkN ?_ ?_ | refine fkM ?_ ?_) <;> intro h) | refine MvQ.stay ?_)
    ((first | refine OpsL.same ?_ | refine OpsDL.same ?_); first | refine pK c2 rfl rfl ?_)
    (repeat' first | (refine Owe.same ?_; first | refine Owe.o ?_ | refine Owe.mk ?_ ?_) | (refine Fork.same ?_; (first | refine fkD ?_ ?_ | refine fkN ?_ ?_ | refine fkM ?_ ?_) <;> intro h) | ((first | refine OpsL.same ?_ | refine OpsDL.same ?_); first | refine pK C56 rfl rfl ?_ | refine pK C55 rfl rfl ?_) | refine MvQ.stay ?_)
    all_goals rename_i h1
    · (refine rqK rfl ?_; (repeat' first | exact rfl | (refine qS ?_; constructor)))
      exact hb1 h1
    · exact absurd ((hb1 h1).symm.trans h) h0
    · (refine rqK rfl ?_; (repeat' first | exact rfl | (refine qS ?_; constructor)))
      exact hb2 h1
    · exact absurd ((hb2 h1).symm.trans h) h0
end Go.Pw

set_option linter.unusedSimpArgs false
set_option linter.unusedVariables false
namespace Go.Pw
set_option maxRecDepth 2000
open Go Go.Proofs A1 A2 A3 A4
theorem fstE_3 {a b c : Int} : fstE [a, b, c] = if a = 0 then (if b = 0 then (if c = 0 then 0 else c) else b) else a := by
  simp only [fstE]
theorem cmpI_0 {a b : Int} : cmpI a b = 0 ↔ a = b := by rw [cmpI]; split <;> (try split) <;> omega
theorem cmpI_lt {a b : Int} : cmpI a b < 0 ↔ a < b := by rw [cmpI]; split <;> (try split) <;> omega
theorem best_p {c : List Int → Int × Bool} {n : Nat} : ∀ b, (∀ x, x < b → (c (subL n x)).2 = true → (bestK c n b).ok = true ∧ (bestK c n b).p ≤ (c (subL n x)).1) ∧
    ((bestK c n b).ok = true → ∃ x, x < b ∧ (bestK c n b).l = subL n x ∧ (bestK c n b).p = (c (subL n x)).1 ∧ (c (subL n x)).2 = true)
  | 0 => ⟨fun x h => by omega, fun h => by simp [bestK] at h⟩
  | b + 1 => by
    obtain ⟨h1, h2⟩ := best_p (c := c) (n := n) b
    simp only [bestK]
    by_cases hc : (c (subL n b)).2 = true ∧ ((bestK c n b).ok = false ∨ fstE [cmpI (c (subL n b)).1 (bestK c n b).p, cmpI (subL n b).length (bestK c n b).l.length, cmpL (subL n b) (bestK c n b).l] < 0)
    · rw [if_pos hc]
      refine ⟨fun x hx hxc => ⟨rfl, ?_⟩, fun _ => ⟨b, Nat.lt_succ_self _, rfl, rfl, hc.1⟩⟩
      rcases Nat.lt_succ_iff_lt_or_eq.1 hx with hx | rfl
      · obtain ⟨ho, hp⟩ := h1 x hx hxc
        rcases hc.2 with h3 | h3
        · rw [ho] at h3; cases h3
        · rw [fstE_3] at h3
          have : (c (subL n b)).1 ≤ (bestK c n b).p := by
            split at h3
            · rename_i h4; rw [cmpI_0] at h4; omega
            · rw [cmpI_lt] at h3; omega
          simp only; omega
      · exact Int.le_refl _
    · rw [if_neg hc]
      refine ⟨fun x hx hxc => ?_, fun h => ?_⟩
      · rcases Nat.lt_succ_iff_lt_or_eq.1 hx with hx | rfl
        · exact h1 x hx hxc
        · have ho : (bestK c n x).ok = true := by
            cases h : (bestK c n x).ok
            · exact absurd ⟨hxc, .inl h⟩ hc
            · rfl
          refine ⟨ho, Int.not_lt.1 fun hlt => hc ⟨hxc, .inr ?_⟩⟩
          rw [fst_c (by rw [ne_eq, cmpI_0]; omega), cmpI_lt]; exact hlt
      · obtain ⟨x, hx, h3⟩ := h2 h
        exact ⟨x, by omega, h3⟩
theorem or4 {a : Int} (h : 0 ≤ a ∧ a ≤ 3) : a = 0 ∨ a = 1 ∨ a = 2 ∨ a = 3 := by omega
theorem orI_assoc {a b c : Int} (ha : 0 ≤ a ∧ a ≤ 3) (hb : 0 ≤ b ∧ b ≤ 3) (hc : 0 ≤ c ∧ c ≤ 3) : orI (orI a b) c = orI a (orI b c) := by
  rcases or4 ha with rfl | rfl | rfl | rfl <;> rcases or4 hb with rfl | rfl | rfl | rfl <;> rcases or4 hc with rfl | rfl | rfl | rfl <;> decide
theorem orI_0 {a : Int} (ha : 0 ≤ a ∧ a ≤ 3) : orI a 0 = a := by
  rcases or4 ha with rfl | rfl | rfl | rfl <;> decide
/-- What the cells of a list give to one cell. -/
def cbU (w : Int) (r : Ry) (i : Nat) : List Cel → Int
  | [] => 0
  | c :: l => orI (if cellN w c = i then stC r c else 0) (cbU w r i l)
theorem cbU_bd {w : Int} {r : Ry} {i : Nat} : ∀ l, 0 ≤ cbU w r i l ∧ cbU w r i l ≤ 3
  | [] => by simp [cbU]
  | c :: l => by
    rw [cbU]
    refine orI_bd ?_ (cbU_bd l)
    split
    · exact stC_bd
    · decide
theorem foldU_or {w : Int} {r : Ry} {i : Nat} : ∀ (l : List Cel) (out : List Int), i < out.length → (∀ i, 0 ≤ out.getD i 0 ∧ out.getD i 0 ≤ 3) → (l.foldl (updS w r) out).getD i 0 = orI (out.getD i 0) (cbU w r i l)
  | [], out, _, hb => (orI_0 (hb i)).symm
  | c :: l, out, hi, hb => by
    have hd : 0 ≤ (if cellN w c = i then stC r c else 0) ∧ (if cellN w c = i then stC r c else 0) ≤ 3 := by
      split
      · exact stC_bd
      · decide
    rw [List.foldl_cons, foldU_or l (updS w r out c) (by rw [updS, List.length_set]; exact hi) (updS_bd hb), cbU, ← orI_assoc (hb i) hd (cbU_bd l)]
    congr 1
    rw [updS, List.getD_eq_getElem?_getD, List.getElem?_set]
    by_cases h : cellN w c = i
    · rw [if_pos h, if_pos h, if_pos (by rw [h]; exact hi), h]; rfl
    · rw [if_neg h, if_neg h, ← List.getD_eq_getElem?_getD, orI_0 (hb i)]
/-- What a ray gives to a cell. -/
abbrev cbR (w : Int) (i : Nat) (r : Ry) : Int := cbU w r i (crS r)
/-- What rays give to a cell. -/
def cbL (w : Int) (i : Nat) : List Ry → Int
  | [] => 0
  | r :: l => orI (cbR w i r) (cbL w i l)
theorem cbL_bd {w : Int} {i : Nat} : ∀ l, 0 ≤ cbL w i l ∧ cbL w i l ≤ 3
  | [] => by simp [cbL]
  | r :: l => orI_bd (cbU_bd _) (cbL_bd l)
theorem cbL_app {w : Int} {i : Nat} : ∀ {l m : List Ry}, cbL w i (l ++ m) = orI (cbL w i l) (cbL w i m)
  | [], m => by
    have h := cbL_bd (w := w) (i := i) m
    rw [List.nil_append, cbL]
    rcases or4 h with e | e | e | e <;> rw [e] <;> decide
  | r :: l, m => by rw [List.cons_append, cbL, cbL, cbL_app, orI_assoc (cbU_bd _) (cbL_bd l) (cbL_bd m)]
/-- The rays that are left of so many. -/
def kpL (l : List Ry) (wo : List Int) : Nat → List Ry
  | 0 => []
  | k + 1 => if (k : Int) ∈ wo then kpL l wo k else kpL l wo k ++ [l.getD k ryd]
theorem stK_cb {s : Sc} {wo : List Int} {i : Nat} (hi : i < (s.1 * s.2.1).toNat) : ∀ k, (stK s wo k).getD i 0 = cbL s.1 i (kpL s.2.2 wo k)
  | 0 => by rw [stK, kpL, cbL, List.getD_eq_getElem?_getD, List.getElem?_replicate, if_pos hi]; rfl
  | k + 1 => by
    rw [stK, kpL]
    split
    · exact stK_cb hi k
    · rw [stR, foldU_or _ _ (by rw [stK_len]; exact hi) (stK_bd k), stK_cb hi k, cbL_app, cbL, cbL, orI_0 (cbU_bd _)]
theorem kpL_nil {l : List Ry} : ∀ k, k ≤ l.length → kpL l [] k = l.take k
  | 0, _ => rfl
  | k + 1, h => by
    rw [kpL, if_neg (by simp), kpL_nil k (by omega), List.take_add_one, List.getElem?_eq_getElem (by omega), List.getD_eq_getElem?_getD, List.getElem?_eq_getElem (by omega)]; rfl
theorem stS_len {s : Sc} {wo : List Int} : (stS s wo).length = (s.1 * s.2.1).toNat := stK_len _
/-- Without some rays the states are those of the scene of the others. -/
theorem stS_rest {s : Sc} {wo : List Int} : stS (s.1, s.2.1, kpL s.2.2 wo s.2.2.length) [] = stS s wo := by
  refine ext_getD 0 (by rw [stS_len, stS_len]) fun i hi => ?_
  rw [stS_len] at hi
  simp only [stS]
  rw [stK_cb (s := (s.1, s.2.1, kpL s.2.2 wo s.2.2.length)) hi, stK_cb (s := s) hi]
  rw [kpL_nil _ (Nat.le_refl _), List.take_length]
/-- Without all rays nothing is contradicted. -/
theorem kpL_all {l : List Ry} {wo : List Int} (n : Nat) (h : ∀ k, k < n → (k : Int) ∈ wo) : ∀ k, k ≤ n → kpL l wo k = []
  | 0, _ => rfl
  | k + 1, hk => by rw [kpL, if_pos (h k (by omega)), kpL_all n h k (by omega)]
theorem stS_none {s : Sc} {wo : List Int} (h : ∀ k, k < s.2.2.length → (k : Int) ∈ wo) : ¬ (3 : Int) ∈ stS s wo := fun hm => by
  obtain ⟨i, hi, he⟩ := List.getElem_of_mem hm
  rw [stS_len] at hi
  have e := stK_cb (s := s) (wo := wo) hi s.2.2.length
  rw [kpL_all _ h _ (Nat.le_refl _), cbL] at e
  have : (stS s wo).getD i 0 = 3 := by rw [List.getD_eq_getElem?_getD, List.getElem?_eq_getElem (by rw [stS_len]; exact hi)]; exact he
  rw [stS] at this
  omega
theorem conL_mem {l : List Int} : ∀ k, k ≤ l.length → ((∃ i, i < k ∧ l.getD i 0 = 3) ↔ 0 < (conL l k).length)
  | 0, _ => by simp [conL]
  | k + 1, hk => by
    have ih := conL_mem (l := l) k (by omega)
    rw [conL]
    split
    · rename_i h
      exact ⟨fun _ => by simp, fun _ => ⟨k, Nat.lt_succ_self _, h⟩⟩
    · rename_i h
      rw [← ih]
      constructor
      · rintro ⟨i, hi, h1⟩
        rcases Nat.lt_succ_iff_lt_or_eq.1 hi with h2 | rfl
        · exact ⟨i, h2, h1⟩
        · exact absurd h1 h
      · rintro ⟨i, hi, h1⟩; exact ⟨i, by omega, h1⟩
theorem con_iff {l : List Int} : 0 < (conL l l.length).length ↔ (3 : Int) ∈ l := by
  rw [← conL_mem _ (Nat.le_refl _)]
  constructor
  · rintro ⟨i, hi, h⟩
    have := getD_mem (0 : Int) hi
    rwa [h] at this
  · intro h
    obtain ⟨i, hi, he⟩ := List.getElem_of_mem h
    exact ⟨i, hi, by rw [List.getD_eq_getElem?_getD, List.getElem?_eq_getElem hi]; exact he⟩
/-- What the law asks of the odd rays. -/
theorem odd_law {s : Sc} : ∃ x, x < 2 ^ s.2.2.length ∧ (bestK (odC s) s.2.2.length (2 ^ s.2.2.length)).l = subL s.2.2.length x ∧ ¬ (3 : Int) ∈ stS s (subL s.2.2.length x) ∧
    ∀ y, y < 2 ^ s.2.2.length → ¬ (3 : Int) ∈ stS s (subL s.2.2.length y) → (subL s.2.2.length x).length ≤ (subL s.2.2.length y).length := by
  obtain ⟨h1, h2⟩ := best_p (c := odC s) (n := s.2.2.length) (2 ^ s.2.2.length)
  have hall : (odC s (subL s.2.2.length (2 ^ s.2.2.length - 1))).2 = true := by
    rw [odC]
    simp only [Bool.not_eq_true', decide_eq_false_iff_not]
    refine stS_none fun k hk => ?_
    rw [subL, fltL, List.mem_map]
    refine ⟨k, List.mem_filter.2 ⟨List.mem_range.2 hk, ?_⟩, rfl⟩
    simp [Nat.testBit_two_pow_sub_one, hk]
  have hp : 0 < 2 ^ s.2.2.length := Nat.two_pow_pos _
  obtain ⟨hok, _⟩ := h1 _ (by omega) hall
  obtain ⟨x, hx, e1, e2, e3⟩ := h2 hok
  refine ⟨x, hx, e1, ?_, fun y hy hn => ?_⟩
  · rw [odC] at e3
    simpa using e3
  · have := (h1 y hy (by rw [odC]; simpa using hn)).2
    rw [e2, odC, odC] at this
    simp only at this
    omega
end Go.Pw

set_option linter.unusedSimpArgs false
set_option linter.unusedVariables false
namespace Go.Pw
set_option maxRecDepth 2000
open Go Go.Proofs A1 A2 A3 A4
theorem OpsL.frzA {P : Program} [Mix P] {N base : Nat} {ops : List LIns} {K : St → Prop} {env : List (Nat × V)} {σ : Store} {nx : Nat} (t j id : Nat) {cs : List C} {n : Nat} {e : TypeId} {s m : Nat} {f : Nat → List D} {fz : Bool} (h : lk env t = .agg cs) (hj : cs[j]? = some (.ms id n)) (hg : get σ id = some (.row e s m f fz)) (hn : n ≤ m)
    (k : frS (set σ id (.row e s m f true)) fun σ' => OpsL P N base ops ⟨(t, .agg (putAt cs j (.d (.sl s n f)))) :: env, σ', nx⟩ K) : OpsL P N base ops ⟨env, σ, nx⟩ K := by
  rw [frS_eq] at k
  exact ⟨Ops.from (Mv.freezeA t j id h hj hg hn) k.h⟩
theorem fltL_mem {p : Nat → Bool} {n k : Nat} : (k : Int) ∈ fltL p n ↔ k < n ∧ p k = true := by
  rw [fltL, List.mem_map]
  constructor
  · rintro ⟨i, hi, he⟩
    have : i = k := by omega
    subst this
    exact ⟨List.mem_range.1 (List.mem_filter.1 hi).1, (List.mem_filter.1 hi).2⟩
  · rintro ⟨h1, h2⟩
    exact ⟨k, List.mem_filter.2 ⟨List.mem_range.2 h1, h2⟩, rfl⟩
theorem fltL_asc {p : Nat → Bool} {n : Nat} : (fltL p n).Pairwise (· < ·) := by
  rw [fltL, List.pairwise_map]
  refine List.Pairwise.filter _ ?_
  exact List.pairwise_lt_range.imp fun h => Int.ofNat_lt.2 h
end Go.Pw

set_option linter.unusedSimpArgs false
set_option linter.unusedVariables false
set_option maxHeartbeats 1000000
namespace Go.Pw
set_option maxRecDepth 2000
open Go Go.Proofs A1 A2 A3 A4
theorem C61g {r : Ry} {w g : Nat} : (ryOk r 12 12 ∧ w ≤ 12 ∧ g ≤ 12) → PFD Tryz.prog 61 [ryv r, vi .i64 w, vi .i64 g] (.c (prs (refCr r w g))) := fun ⟨hO, hw, hg⟩ => by
  obtain ⟨F, hF⟩ : ∃ F : Int → List Cel, F = fun y => catR (rcC r y) 0 w := ⟨_, rfl⟩
  rw [refCr, ← hF]
  refine pi1 fn61 ?_
  (repeat' first | (refine Owe.same ?_; first | refine Owe.o ?_ | refine Owe.mk ?_ ?_) | (refine Fork.same ?_; (first | refine fkD ?_ ?_ | refine fkN ?_ ?_ | refine fkM ?_ ?_) <;> intro h) | refine MvQ.stay ?_)
  refine Sat.nilS 7 49 2 (fun i => r2 (([] : List Pr).getD i (0, 0))) rfl ?_
  refine Sat.lp (fun y : Nat => ⟨[(8, vi .i64 y), (1, vi .i64 w), (2, vi .i64 g), (3, .c (.rp (r5 r))), (7, .c (.ms 0 (catR F 0 y).length))], [(0, rowv 49 2 r2 (0, 0) (catR F 0 y))], 1⟩)
    (fun y => y ≤ g) (fun y => g - y) 0 [0] (Nat.zero_le _) ?_ ?_
  · (refine qis ?_ ?_ <;> (repeat' first | exact rfl | (refine qS ?_; constructor)))
  · intro y hy
    have hl1 : (catR F 0 y).length ≤ y * 12 := catR_len fun x => by have := catR_len (a := 0) (k := w) (rcC_len r x); rw [hF]; simp only; omega
    refine Fork.dec (fun hlt => ?_) (fun hlt => ?_)
    · have hlty : y < g := by omega
      (repeat' first | (refine Owe.same ?_; first | refine Owe.o ?_ | refine Owe.mk ?_ ?_) | (refine Fork.same ?_; (first | refine fkD ?_ ?_ | refine fkN ?_ ?_ | refine fkM ?_ ?_) <;> intro h) | refine MvQ.stay ?_)
      refine Sat.lp (fun x : Nat => ⟨[(9, vi .i64 x), (8, vi .i64 y), (1, vi .i64 w), (2, vi .i64 g), (3, .c (.rp (r5 r))), (7, .c (.ms 0 (catR F 0 y ++ catR (rcC r y) 0 x).length))], [(0, rowv 49 2 r2 (0, 0) (catR F 0 y ++ catR (rcC r y) 0 x))], 1⟩)
        (fun x => x ≤ w) (fun x => w - x) 0 [0] (Nat.zero_le _) ?_ ?_
      · (refine qis ?_ ?_ <;> (repeat' first | exact rfl | (refine qS ?_; constructor)))
        · rw [catR, List.append_nil]
        · rw [catR, List.append_nil]
      · intro x hx
        have hl2 : (catR (rcC r y) 0 x).length ≤ x * 1 := catR_len (rcC_len r y)
        have hl3 : (catR F 0 y ++ catR (rcC r y) 0 x).length = (catR F 0 y).length + (catR (rcC r y) 0 x).length := List.length_append
        refine Fork.dec (fun hlt => ?_) (fun hlt => ?_)
        · have hltx : x < w := by omega
          have c46 := C59 (r := r) (c := ((x : Int), (y : Int))) ⟨hO, by simp only [inG]; omega⟩
          have es : catR (rcC r y) 0 (x + 1) = catR (rcC r y) 0 x ++ rcC r y x := by rw [catR, Int.zero_add]
          (repeat' first | (refine Owe.same ?_; first | refine Owe.o ?_ | refine Owe.mk ?_ ?_) | (refine Fork.same ?_; (first | refine fkD ?_ ?_ | refine fkN ?_ ?_ | refine fkM ?_ ?_) <;> intro h) | ((first | refine OpsL.same ?_ | refine OpsDL.same ?_); first | refine pK c46 rfl rfl ?_) | refine MvQ.stay ?_)
          · have e : rcC r y x = [((x : Int), (y : Int))] := rcC_in h
            refine again (x + 1) [2] hltx (by omega) ?_
            rw [es, e]
            (refine qis ?_ ?_ <;> (repeat' first | exact rfl | (refine qS ?_; constructor)))
            · simp; omega
            · exact (List.append_assoc ..).symm
          · have e : rcC r y x = [] := rcC_out h
            refine again (x + 1) [0] hltx (by omega) ?_
            rw [es, e, List.append_nil]
            (refine qis ?_ ?_ <;> (repeat' first | exact rfl | (refine qS ?_; constructor)))
        · have : x = w := by omega
          subst this
          (repeat' first | (refine Owe.same ?_; first | refine Owe.o ?_ | refine Owe.mk ?_ ?_) | (refine Fork.same ?_; (first | refine fkD ?_ ?_ | refine fkN ?_ ?_ | refine fkM ?_ ?_) <;> intro h) | refine MvQ.stay ?_)
          refine again (y + 1) [0] hlty (by omega) ?_
          have ey : catR F 0 (y + 1) = catR F 0 y ++ catR (rcC r y) 0 x := by rw [catR, Int.zero_add, hF]
          rw [ey]
          (refine qis ?_ ?_ <;> (repeat' first | exact rfl | (refine qS ?_; constructor)))
    · have : y = g := by omega
      subst this
      (repeat' first | (refine Owe.same ?_; first | refine Owe.o ?_ | refine Owe.mk ?_ ?_) | (refine Fork.same ?_; (first | refine fkD ?_ ?_ | refine fkN ?_ ?_ | refine fkM ?_ ?_) <;> intro h) | refine MvQ.stay ?_)
      refine rqF 0 _ rfl rfl rfl ?_; (repeat' first | exact rfl | (refine qS ?_; constructor))
theorem C61 {r : Ry} {w g : Int} : (ryOk r w g ∧ (1 ≤ w ∧ w ≤ 12) ∧ 1 ≤ g ∧ g ≤ 12) → PFD Tryz.prog 61 [ryv r, vi .i64 w, vi .i64 g] (.c (prs (crS r))) := fun ⟨hO, hw, hg⟩ => by
  obtain ⟨w, rfl⟩ : ∃ n : Nat, w = n := ⟨w.toNat, by omega⟩
  obtain ⟨g, rfl⟩ : ∃ n : Nat, g = n := ⟨g.toNat, by omega⟩
  have h := C61g (r := r) (w := w) (g := g) ⟨by obtain ⟨⟨⟨a1, a2⟩, a3, a4⟩, ⟨a5, a6⟩, a7, a8⟩ := hO; refine ⟨⟨⟨a1, ?_⟩, a3, ?_⟩, ⟨a5, ?_⟩, a7, ?_⟩ <;> omega, by omega, by omega⟩
  rw [refCr_eq hO] at h
  exact h
abbrev b1 (b : Bool) : List D := [.v (.bool b)]
abbrev bols (l : List Bool) : C := slv 1 b1 false l
/-- A cell of a ray says what is true. -/
def honC (r : Ry) (w : Int) (so : List Bool) (c : Cel) : Bool := if c = r.2.1 then so.getD (c.2 * w + c.1).toNat false == r.2.2 else !so.getD (c.2 * w + c.1).toNat false
/-- A ray is honest. -/
def hon (r : Ry) (w : Int) (so : List Bool) : Bool := (crS r).all (honC r w so)
theorem crS_ln {r : Ry} {w g : Int} (hO : ryOk r w g) (hw : 1 ≤ w ∧ w ≤ 12) (hg : 1 ≤ g ∧ g ≤ 12) : (crS r).length ≤ 1000 := by
  have e : ∃ n : Nat, w = n := ⟨w.toNat, by omega⟩
  obtain ⟨w, rfl⟩ := e
  have e : ∃ n : Nat, g = n := ⟨g.toNat, by omega⟩
  obtain ⟨g, rfl⟩ := e
  rw [← refCr_eq hO, refCr]
  have h1 : ∀ y, (catR (rcC r y) 0 w).length ≤ 12 := fun y => by
    have := catR_len (a := 0) (k := w) (rcC_len r y); omega
  have := catR_len (a := 0) (k := g) h1
  omega
theorem all_take {α : Type} {l : List α} {p : α → Bool} {d : α} {k : Nat} (hk : k < l.length) : (l.take (k + 1)).all p = ((l.take k).all p && p (l.getD k d)) := by
  rw [List.take_add_one, List.all_append, List.getElem?_eq_getElem hk, List.getD_eq_getElem?_getD, List.getElem?_eq_getElem hk]
  simp
theorem cel_eq {a b : Cel} : (decide (a.1 = b.1) && decide (a.2 = b.2)) = decide (a = b) := by
  rw [Bool.eq_iff_iff]
  simp [Prod.ext_iff]
theorem C28 {r : Ry} {w g : Int} {so : List Bool} : ((ryOk r w g ∧ (1 ≤ w ∧ w ≤ 12) ∧ 1 ≤ g ∧ g ≤ 12) ∧ (so.length : Int) = w * g) → PFD Tryz.prog 28 [ryv r, vi .i64 w, vi .i64 g, .c (bols so)] (vbl (hon r w so)) := fun ⟨hO, hso⟩ => by
  have c61 := C61 hO
  have hin : ∀ i, i < (crS r).length → inG ((crS r).getD i (0, 0)) w g := fun i hi => crS_in hO.1 (getD_mem (0, 0) hi)
  have hl := crS_ln hO.1 hO.2.1 hO.2.2
  rw [hon]
  generalize crS r = L at *
  have hw := hO.2.1
  have hg := hO.2.2
  clear hO
  refine pi1 fn28 ?_
  (repeat' first | (refine Owe.same ?_; first | refine Owe.o ?_ | refine Owe.mk ?_ ?_) | (refine Fork.same ?_; (first | refine fkD ?_ ?_ | refine fkN ?_ ?_ | refine fkM ?_ ?_) <;> intro h) | ((first | refine OpsL.same ?_ | refine OpsDL.same ?_); first | refine pK c61 rfl rfl ?_) | refine MvQ.stay ?_)
  refine Sat.lp (fun k : Nat => ⟨[(10, vi .i64 k), (9, .c (prs L)), (1, vi .i64 w), (3, .c (bols so)), (4, .c (.rp (r5 r)))], [], 1⟩)
    (fun k => k ≤ L.length ∧ (L.take k).all (honC r w so) = true) (fun k => L.length - k) 0 [0] ⟨Nat.zero_le _, by simp⟩ ?_ ?_
  · (refine qis ?_ ?_ <;> (repeat' first | exact rfl | (refine qS ?_; constructor)))
  · rintro k ⟨hk, ha⟩
    refine Fork.dec (fun hlt => ?_) (fun hlt => ?_)
    · have hlt : k < L.length := by omega
      have h1 := hin k hlt
      have h2 := cell_bd h1 hw.1
      obtain ⟨⟨h3, h4⟩, h5, h6⟩ := h1
      have ea := all_take (p := honC r w so) (d := (0, 0)) hlt
      have hf : honC r w so (L.getD k (0, 0)) = false → L.all (honC r w so) = false := fun hh => by
        rw [List.all_eq_false]
        exact ⟨_, getD_mem (0, 0) hlt, by rw [hh]; decide⟩
      have hcb : (L.getD k (0, 0)).2 * w + (L.getD k (0, 0)).1 < so.length := by omega
      have hm : 0 ≤ (L.getD k (0, 0)).2 * w := Int.mul_nonneg h5 (by omega)
      have hsl : so.length ≤ 144 := by
        have h7 : w * g ≤ 12 * 12 := Int.mul_le_mul hw.2 hg.2 (by omega) (by decide)
        omega
      have hR1 : R64 ((L.getD k (0, 0)).2 * w) := by constructor <;> omega
      have hR2 : R64 ((L.getD k (0, 0)).2 * w + (L.getD k (0, 0)).1) := by constructor <;> omega
      have hv : honC r w so (L.getD k (0, 0)) = if (decide ((L.getD k (0, 0)).1 = r.2.1.1) && decide ((L.getD k (0, 0)).2 = r.2.1.2)) = true then (so.getD ((L.getD k (0, 0)).2 * w + (L.getD k (0, 0)).1).toNat false == r.2.2) else !so.getD ((L.getD k (0, 0)).2 * w + (L.getD k (0, 0)).1).toNat false := by
        rw [honC, cel_eq]; simp
      rw [ha, Bool.true_and, hv] at ea
      rw [hv] at hf
      clear hv ha hin
      (repeat' first | (refine Owe.same ?_; first | refine Owe.o ?_ | refine Owe.mk ?_ ?_) | (refine Fork.same ?_; (first | refine fkD ?_ ?_ | refine fkN ?_ ?_ | refine fkM ?_ ?_) <;> intro h) | refine MvQ.stay ?_)
      · (refine rqK rfl ?_; (repeat' first | exact rfl | (refine qS ?_; constructor)))
        refine hf ?_
        rename_i h8
        rw [if_pos (show (decide ((L.getD k (0, 0)).1 = r.2.1.1) && decide ((L.getD k (0, 0)).2 = r.2.1.2)) = true from h8)]
        simpa using h
      · rename_i h8 h9 h10
        rw [h8] at h10
        cases h10
      · rename_i h8 h9 h10
        rw [h8] at h10
        cases h10
      · rename_i h8 h9
        refine again (k + 1) [0] ⟨hlt, ?_⟩ (by omega) ?_
        · rw [ea, if_pos (show (decide ((L.getD k (0, 0)).1 = r.2.1.1) && decide ((L.getD k (0, 0)).2 = r.2.1.2)) = true from h8)]; simpa using h9
        · (refine qis ?_ ?_ <;> (repeat' first | exact rfl | (refine qS ?_; constructor)))
      · (refine rqK rfl ?_; (repeat' first | exact rfl | (refine qS ?_; constructor)))
        refine hf ?_
        rename_i h8 h9
        rw [if_neg (by rw [show (decide ((L.getD k (0, 0)).1 = r.2.1.1) && decide ((L.getD k (0, 0)).2 = r.2.1.2)) = false from h8]; decide)]
        simpa using h
      · rename_i h8 h9
        refine again (k + 1) [0] ⟨hlt, ?_⟩ (by omega) ?_
        · rw [ea, if_neg (by rw [show (decide ((L.getD k (0, 0)).1 = r.2.1.1) && decide ((L.getD k (0, 0)).2 = r.2.1.2)) = false from h8]; decide)]
          simpa using h
        · (refine qis ?_ ?_ <;> (repeat' first | exact rfl | (refine qS ?_; constructor)))
      · rename_i h8
        rw [h8] at h
        cases h
    · have : k = L.length := by omega
      subst this
      rw [List.take_length] at ha
      (repeat' first | (refine Owe.same ?_; first | refine Owe.o ?_ | refine Owe.mk ?_ ?_) | (refine Fork.same ?_; (first | refine fkD ?_ ?_ | refine fkN ?_ ?_ | refine fkM ?_ ?_) <;> intro h) | refine MvQ.stay ?_)
      (refine rqK rfl ?_; (repeat' first | exact rfl | (refine qS ?_; constructor)))
      exact ha
end Go.Pw

set_option linter.unusedSimpArgs false
set_option linter.unusedVariables false
namespace Go.Pw
set_option maxRecDepth 2000
open Go Go.Proofs A1 A2 A3 A4
/-- What a cell's state can be at most. -/
def sgm (so : List Bool) (i : Nat) : Int := if so.getD i false = true then 2 else 1
theorem sgm_bd {so : List Bool} {i : Nat} : sgm so i = 1 ∨ sgm so i = 2 := by rw [sgm]; split <;> simp
theorem stC_hon {r : Ry} {w : Int} {so : List Bool} {c : Cel} (h : honC r w so c = true) : stC r c = sgm so (cellN w c) := by
  rw [honC] at h
  rw [stC, sgm, cellN]
  by_cases hc : c = r.2.1
  · rw [if_pos hc] at h
    have h : so.getD (c.2 * w + c.1).toNat false = r.2.2 := by simpa using h
    rw [h]
    cases hr : r.2.2
    · rw [if_neg (by simp), if_neg (by simp)]
    · rw [if_pos ⟨hc, rfl⟩, if_pos rfl]
  · rw [if_neg hc] at h
    have h : so.getD (c.2 * w + c.1).toNat false = false := by simpa using h
    rw [h, if_neg (fun x => hc x.1), if_neg (by simp)]
theorem orI_s {so : List Bool} {i : Nat} {a b : Int} (ha : a = 0 ∨ a = sgm so i) (hb : b = 0 ∨ b = sgm so i) : (orI a b = 0 ∨ orI a b = sgm so i) ∧ (orI a b = 0 ↔ a = 0 ∧ b = 0) := by
  rcases sgm_bd (so := so) (i := i) with e | e <;> rw [e] at ha hb ⊢ <;> rcases ha with rfl | rfl <;> rcases hb with rfl | rfl <;> decide
/-- What an honest ray gives to a cell. -/
theorem cbU_hon {r : Ry} {w : Int} {so : List Bool} {i : Nat} : ∀ {l : List Cel}, l.all (honC r w so) = true → (cbU w r i l = 0 ∨ cbU w r i l = sgm so i) ∧ (cbU w r i l = 0 ↔ ∀ c ∈ l, cellN w c ≠ i)
  | [], _ => ⟨.inl rfl, by simp [cbU]⟩
  | c :: l, h => by
    rw [List.all_cons, Bool.and_eq_true] at h
    obtain ⟨h1, h2⟩ := cbU_hon (i := i) h.2
    rw [cbU]
    have ha : (if cellN w c = i then stC r c else 0) = 0 ∨ (if cellN w c = i then stC r c else 0) = sgm so i := by
      by_cases hi : cellN w c = i
      · rw [if_pos hi, stC_hon h.1, hi]; exact .inr rfl
      · rw [if_neg hi]; exact .inl rfl
    obtain ⟨h3, h4⟩ := orI_s ha h1
    refine ⟨h3, h4.trans ?_⟩
    have h5 : (if cellN w c = i then stC r c else 0) = 0 ↔ cellN w c ≠ i := by
      by_cases hi : cellN w c = i
      · rw [if_pos hi, stC_hon h.1, hi]
        rcases sgm_bd (so := so) (i := i) with e | e <;> rw [e] <;> simp
      · simp [hi]
    rw [h5, h2]
    simp
theorem cbL_hon {w : Int} {so : List Bool} {i : Nat} : ∀ {l : List Ry}, (∀ r ∈ l, hon r w so = true) → (cbL w i l = 0 ∨ cbL w i l = sgm so i) ∧ (cbL w i l = 0 ↔ ∀ r ∈ l, ∀ c ∈ crS r, cellN w c ≠ i)
  | [], _ => ⟨.inl rfl, by simp [cbL]⟩
  | r :: l, h => by
    obtain ⟨h1, h2⟩ := cbL_hon (i := i) fun x hx => h x (List.mem_cons_of_mem _ hx)
    obtain ⟨h3, h4⟩ := cbU_hon (r := r) (w := w) (so := so) (i := i) (h r (List.mem_cons_self ..))
    rw [cbL]
    obtain ⟨h5, h6⟩ := orI_s h3 h1
    refine ⟨h5, h6.trans ?_⟩
    rw [h4, h2]
    simp
/-- The states of a scene say what is true of a world. -/
structure TrueS (w : Int) (so : List Bool) (l : List Ry) (S : List Int) : Prop where
  len : S.length = so.length
  at_ : ∀ i, i < so.length → (S.getD i 0 = 0 ∨ S.getD i 0 = sgm so i) ∧ (S.getD i 0 = 0 ↔ ∀ r ∈ l, ((i : Int) % w, (i : Int) / w) ∉ crS r)
theorem cellN_at {w : Int} {c : Cel} {i : Nat} (hw : 1 ≤ w) (h1 : 0 ≤ c.1 ∧ c.1 < w) (h2 : 0 ≤ c.2) : cellN w c = i ↔ c = ((i : Int) % w, (i : Int) / w) := by
  rw [cellN]
  have hm : 0 ≤ c.2 * w := Int.mul_nonneg h2 (by omega)
  constructor
  · intro h
    have e : (i : Int) = c.1 + w * c.2 := by rw [Int.mul_comm]; omega
    rw [e]
    refine Prod.ext ?_ ?_
    · simp only [Int.add_mul_emod_self_left]; rw [Int.emod_eq_of_lt h1.1 h1.2]
    · simp only []; rw [Int.add_mul_ediv_left _ _ (by omega), Int.ediv_eq_zero_of_lt h1.1 h1.2]; omega
  · intro h
    have e1 : c.1 = (i : Int) % w := by rw [h]
    have e2 : c.2 = (i : Int) / w := by rw [h]
    have := Int.mul_ediv_add_emod (i : Int) w
    rw [Int.mul_comm] at this
    rw [e1, e2]
    omega
theorem true_S {w g : Int} {so : List Bool} {l : List Ry} (hw : 1 ≤ w) (hso : (so.length : Int) = w * g) (hO : ∀ r ∈ l, ryOk r w g) (hh : ∀ r ∈ l, hon r w so = true) : TrueS w so l (stS (w, g, l) []) := by
  refine ⟨by rw [stS_len]; simp only; omega, fun i hi => ?_⟩
  have e := stK_cb (s := (w, g, l)) (wo := []) (i := i) (by simp only; omega) l.length
  rw [kpL_nil _ (Nat.le_refl _), List.take_length] at e
  simp only at e
  rw [stS]
  simp only
  rw [e]
  obtain ⟨h1, h2⟩ := cbL_hon (i := i) hh
  refine ⟨h1, h2.trans ?_⟩
  constructor
  · intro h r hr hc
    refine h r hr _ hc ?_
    have := crS_in (hO r hr) hc
    obtain ⟨⟨a1, a2⟩, a3, a4⟩ := this
    simp only at a1 a2 a3 a4
    exact (cellN_at hw ⟨a1, by simp only; omega⟩ a3).2 rfl
  · intro h r hr c hc he
    obtain ⟨⟨a1, a2⟩, a3, a4⟩ := crS_in (hO r hr) hc
    rw [cellN_at hw ⟨a1, by omega⟩ a3] at he
    rw [he] at hc
    exact h r hr hc
theorem TrueS.no3 {w : Int} {so : List Bool} {l : List Ry} {S : List Int} (h : TrueS w so l S) : ¬ (3 : Int) ∈ S := fun hm => by
  obtain ⟨i, hi, he⟩ := List.getElem_of_mem hm
  have h1 := (h.at_ i (by rw [← h.len]; exact hi)).1
  rw [List.getD_eq_getElem?_getD, List.getElem?_eq_getElem hi, Option.getD_some, he] at h1
  rcases sgm_bd (so := so) (i := i) with e | e <;> omega
/-- Which rays a world's scene has. -/
def rOk (w g : Int) (so : List Bool) (r : Ry) : Bool := decide (ryOk r w g) && hon r w so
def scnL (w g : Int) (so : List Bool) (l : List Ry) : List Ry := l.filter (rOk w g so)
theorem scnL_in {w g : Int} {so : List Bool} {l : List Ry} {r : Ry} (h : r ∈ scnL w g so l) : ryOk r w g ∧ hon r w so = true := by
  have := (List.mem_filter.1 h).2
  rw [rOk, Bool.and_eq_true, decide_eq_true_eq] at this
  exact this
theorem scnL_len {w g : Int} {so : List Bool} {l : List Ry} : (scnL w g so l).length ≤ l.length := List.length_filter_le _ _
theorem scE_0 {w g : Int} {l : List Ry} (hw : 1 ≤ w ∧ w ≤ 12) (hg : 1 ≤ g ∧ g ≤ 12) (hn : l.length ≤ 10) (h : ∀ r ∈ l, ryOk r w g) : (scE (w, g, l)).2 = 0 :=
  scE_ok.2 ⟨gridE_ok.2 ⟨⟨hw, hg⟩, by simp only; omega⟩, h⟩
theorem kpL_one {l : List Ry} {k : Nat} : ∀ n, n ≤ l.length → (∀ i, i < n → (i : Int) ∉ [(k : Int)] ∨ i = k) → kpL l [(k : Int)] n = if k < n then l.take k ++ (l.take n).drop (k + 1) else l.take n
  | 0, _, _ => by simp [kpL]
  | n + 1, hn, h => by
    rw [kpL, kpL_one n (by omega) fun i hi => h i (by omega)]
    have hg : l.take (n + 1) = l.take n ++ [l.getD n ryd] := by
      rw [List.take_add_one, List.getElem?_eq_getElem (by omega), List.getD_eq_getElem?_getD, List.getElem?_eq_getElem (by omega)]; rfl
    by_cases hk : k = n
    · subst hk
      rw [if_pos (by simp), if_neg (by omega), if_pos (by omega), List.drop_eq_nil_of_le (by rw [List.length_take]; omega), List.append_nil]
    · rw [if_neg (by simp; omega)]
      by_cases hk2 : k < n
      · rw [if_pos hk2, if_pos (by omega), hg, List.append_assoc, List.drop_append_of_le_length (by rw [List.length_take]; omega)]
      · rw [if_neg hk2, if_neg (by omega), hg]
theorem kpL_last {l : List Ry} {x : Ry} : kpL (l ++ [x]) [(l.length : Int)] (l ++ [x]).length = l := by
  have hl : (l ++ [x]).length = l.length + 1 := by simp
  rw [hl, kpL, if_pos (by simp), kpL_one _ (by omega) fun i hi => .inl (by simp; omega), if_neg (by omega), List.take_left']
  rfl
/-- One ray that lies makes at most one ray odd. -/
theorem odd_one {w g : Int} {l : List Ry} {x : Ry} (h : ¬ (3 : Int) ∈ stS (w, g, l) []) : (bestK (odC (w, g, l ++ [x])) (l ++ [x]).length (2 ^ (l ++ [x]).length)).l.length ≤ 1 := by
  obtain ⟨y, hy, e1, e2, e3⟩ := odd_law (s := (w, g, l ++ [x]))
  simp only at e1 e2 e3 hy
  rw [e1]
  have e4 : subL (l ++ [x]).length (2 ^ l.length) = [(l.length : Int)] := by
    have hs : (l ++ [x]).length = l.length + 1 := by simp
    rw [hs]
    have hp : ∀ k : Int, k ∈ subL (l.length + 1) (2 ^ l.length) ↔ k = l.length := fun k => by
      constructor
      · intro hk
        rw [subL, fltL, List.mem_map] at hk
        obtain ⟨i, hi, rfl⟩ := hk
        have := (List.mem_filter.1 hi).2
        rw [Nat.testBit_two_pow] at this
        have : l.length = i := by simpa using this
        omega
      · rintro rfl
        rw [subL, fltL_mem]
        exact ⟨by omega, Nat.testBit_two_pow_self⟩
    have hA : (subL (l.length + 1) (2 ^ l.length)).Pairwise (· < ·) := fltL_asc
    match hL : subL (l.length + 1) (2 ^ l.length), hp, hA with
    | [], hp, _ => exact absurd ((hp l.length).2 rfl) (by simp)
    | [a], hp, _ => rw [(hp a).1 (by simp)]
    | a :: b :: r, hp, hA =>
      have h1 := (hp a).1 (by simp)
      have h2 := (hp b).1 (by simp)
      have := (List.pairwise_cons.1 hA).1 b (by simp)
      omega
  have h5 := e3 (2 ^ l.length) (Nat.pow_lt_pow_right (by decide) (by simp)) (by
    rw [e4]
    have h6 := stS_rest (s := (w, g, l ++ [x])) (wo := [(l.length : Int)])
    simp only at h6
    rw [kpL_last] at h6
    rw [← h6]
    exact h)
  rw [e4] at h5
  exact h5
end Go.Pw

set_option linter.unusedSimpArgs false
set_option linter.unusedVariables false
set_option maxHeartbeats 1000000
namespace Go.Pw
set_option maxRecDepth 2000
open Go Go.Proofs A1 A2 A3 A4
abbrev wrD (w g : Int) (so : List Bool) (x : Ry) : List D := [dI w, dI g, .sl 1 so.length fun i => b1 (so.getD i false), dI x.1.1, dI x.1.2, dI x.2.1.1, dI x.2.1.2, .v (.bool x.2.2)]
abbrev wrv (w g : Int) (so : List Bool) (x : Ry) : V := .agg [int w, int g, bols so, int x.1.1, int x.1.2, int x.2.1.1, int x.2.1.2, .d (.v (.bool x.2.2))]
theorem scnL_take {w g : Int} {so : List Bool} {l : List Ry} {k : Nat} (h : k < l.length) : scnL w g so (l.take (k + 1)) = scnL w g so (l.take k) ++ (if rOk w g so (l.getD k ryd) then [l.getD k ryd] else []) := by
  rw [scnL, scnL, List.take_add_one, List.filter_append, List.getElem?_eq_getElem h, List.getD_eq_getElem?_getD, List.getElem?_eq_getElem h]
  simp only [Option.toList_some, Option.getD_some, List.filter_cons, List.filter_nil]
theorem C24 {w g : Int} {so : List Bool} {x : Ry} {l : List Ry} : (((1 ≤ w ∧ w ≤ 12) ∧ 1 ≤ g ∧ g ≤ 12) ∧ (so.length : Int) = w * g ∧ l.length ≤ 1000) → PFD Tryz.prog 24 [wrv w g so x, .c (rys l)] (scv (w, g, scnL w g so l)) := fun ⟨⟨hw, hg⟩, hso, hl⟩ => by
  have c27 : ∀ r : Ry, PFD Tryz.prog 27 [ryv r, vi .i64 w, vi .i64 g] (vi .i64 (unl (ryOk r w g) 6)) := fun r => C27 ⟨by omega, by omega⟩
  have c28 : ∀ r : Ry, ryOk r w g → PFD Tryz.prog 28 [ryv r, vi .i64 w, vi .i64 g, .c (bols so)] (vbl (hon r w so)) := fun r hr => C28 ⟨⟨hr, hw, hg⟩, hso⟩
  refine pi1 fn24 ?_
  (repeat' first | (refine Owe.same ?_; first | refine Owe.o ?_ | refine Owe.mk ?_ ?_) | (refine Fork.same ?_; (first | refine fkD ?_ ?_ | refine fkN ?_ ?_ | refine fkM ?_ ?_) <;> intro h) | refine MvQ.stay ?_)

  refine Sat.nilB 1 2 51 5 (fun i => r5 (([] : List Ry).getD i ryd)) rfl rfl ?_
  refine Sat.lp (fun k : Nat => ⟨[(6, vi .i64 k), (1, .c (rys l)), (2, .c (.rp (wrD w g so x))), (4, .c (.bp 0 0)), (5, .c (.bp 1 0))],
      [(0, .box [int 0, int 0, .d (.v (.slice none 0 0))]), (1, .box [int w, int g, .ms 2 (scnL w g so (l.take k)).length]), (2, rowv 51 5 r5 ryd (scnL w g so (l.take k)))], 3⟩)
    (fun k => k ≤ l.length) (fun k => l.length - k) 0 [0, 1, 2] (Nat.zero_le _) ?_ ?_
  · (refine qis ?_ ?_ <;> (repeat' first | exact rfl | (refine qS ?_; constructor)))
  · intro k hk
    have hsl := scnL_len (w := w) (g := g) (so := so) (l := l.take k)
    rw [List.length_take] at hsl
    refine Fork.dec (fun hlt => ?_) (fun hlt => ?_)
    · have hlt : k < l.length := by omega
      have et := scnL_take (w := w) (g := g) (so := so) hlt
      by_cases hr : ryOk (l.getD k ryd) w g
      · (repeat' first | (refine Owe.same ?_; first | refine Owe.o ?_ | refine Owe.mk ?_ ?_) | (refine Fork.same ?_; (first | refine fkD ?_ ?_ | refine fkN ?_ ?_ | refine fkM ?_ ?_) <;> intro h) | ((first | refine OpsL.same ?_ | refine OpsDL.same ?_); first | refine pK (c27 _) rfl rfl ?_ | refine pK (c28 _ hr) rfl rfl ?_) | refine MvQ.stay ?_)
        · refine again (k + 1) [0, 1, 31] hlt (by omega) ?_
          rw [et, if_pos (by rw [rOk, decide_eq_true hr, h]; rfl)]
          (refine qis ?_ ?_ <;> (repeat' first | exact rfl | (refine qS ?_; constructor)))
          · simp
          · exact ⟨_, rfl, rfl⟩
        · refine again (k + 1) [0, 1, 2] hlt (by omega) ?_
          rw [et, if_neg (by rw [rOk, decide_eq_true hr, h]; decide), List.append_nil]
          (refine qis ?_ ?_ <;> (repeat' first | exact rfl | (refine qS ?_; constructor)))
        · exact absurd ((unl0 (by decide)).2 hr) h
      · (repeat' first | (refine Owe.same ?_; first | refine Owe.o ?_ | refine Owe.mk ?_ ?_) | (refine Fork.same ?_; (first | refine fkD ?_ ?_ | refine fkN ?_ ?_ | refine fkM ?_ ?_) <;> intro h) | ((first | refine OpsL.same ?_ | refine OpsDL.same ?_); first | refine pK (c27 _) rfl rfl ?_) | refine MvQ.stay ?_)
        · exact absurd ((unl0 (by decide)).1 h) hr
        · refine again (k + 1) [0, 1, 2] hlt (by omega) ?_
          rw [et, if_neg (by rw [rOk, decide_eq_false hr, Bool.false_and]; decide), List.append_nil]
          (refine qis ?_ ?_ <;> (repeat' first | exact rfl | (refine qS ?_; constructor)))
    · have : k = l.length := by omega
      subst this
      rw [List.take_length]
      (repeat' first | (refine Owe.same ?_; first | refine Owe.o ?_ | refine Owe.mk ?_ ?_) | (refine Fork.same ?_; (first | refine fkD ?_ ?_ | refine fkN ?_ ?_ | refine fkM ?_ ?_) <;> intro h))
      refine MvQ.frzX 1 2 2 rfl rfl rfl (Nat.le_refl _) ?_
      (repeat' first | (refine Owe.same ?_; first | refine Owe.o ?_ | refine Owe.mk ?_ ?_) | (refine Fork.same ?_; (first | refine fkD ?_ ?_ | refine fkN ?_ ?_ | refine fkM ?_ ?_) <;> intro h) | refine MvQ.stay ?_)
      (refine rqK rfl ?_; (repeat' first | exact rfl | (refine qS ?_; constructor)))
theorem any_take {α : Type} {l : List α} {p : α → Bool} {d : α} {k : Nat} (hk : k < l.length) : (l.take (k + 1)).any p = ((l.take k).any p || p (l.getD k d)) := by
  rw [List.take_add_one, List.any_append, List.getElem?_eq_getElem hk, List.getD_eq_getElem?_getD, List.getElem?_eq_getElem hk]
  simp
theorem ryOk_12 {r : Ry} {w g : Int} (hw : w ≤ 12) (hg : g ≤ 12) (h : ryOk r w g) : ryOk r 12 12 := by
  obtain ⟨⟨⟨a1, a2⟩, a3, a4⟩, ⟨a5, a6⟩, a7, a8⟩ := h
  refine ⟨⟨⟨a1, ?_⟩, a3, ?_⟩, ⟨a5, ?_⟩, a7, ?_⟩ <;> omega
abbrev hitB (w : Int) (n : Nat) (r : Ry) : Bool := decide (((n : Int) % w, (n : Int) / w) ∈ crS r)
theorem C26 {w g : Int} {so : List Bool} {x : Ry} {l : List Ry} (hw : 1 ≤ w ∧ w ≤ 12) (hg : 1 ≤ g ∧ g ≤ 12) (hso : (so.length : Int) = w * g) (hl : l.length ≤ 1000) (h0 : (scE (w, g, l)).2 = 0) (hT : TrueS w so l (stS (w, g, l) [])) :
    PFD Tryz.prog 26 [wrv w g so x, scv (w, g, l)] (vbl true) := by
  have c11 := C11 (s := (w, g, l)) (by simp only; omega)
  have c35 := C35 (s := (w, g, l)) (by simp only; omega)
  have c58 := C58 (s := (w, g, l)) (by simp only; omega)
  rw [h0, if_pos rfl] at c35 c58
  have hO : ∀ i, i < l.length → ryOk (l.getD i ryd) 12 12 := fun i hi => ryOk_12 hw.2 hg.2 ((scE_ok.1 h0).2 _ (getD_mem ryd hi))
  have hq : conL (stS (w, g, l) []) (stS (w, g, l) []).length = [] := List.eq_nil_of_length_eq_zero (Nat.eq_zero_of_not_pos fun h => hT.no3 (con_iff.1 h))
  generalize stS (w, g, l) [] = S at *
  rw [hq] at c58
  have hSl := hT.len
  have hsl : so.length ≤ 144 := by
    have h7 : w * g ≤ 12 * 12 := Int.mul_le_mul hw.2 hg.2 (by omega) (by decide)
    omega
  refine pi1 fn26 ?_
  (repeat' first | (refine Owe.same ?_; first | refine Owe.o ?_ | refine Owe.mk ?_ ?_) | (refine Fork.same ?_; (first | refine fkY ?_ | refine fkF ?_ | ((first | refine fkD ?_ ?_ | refine fkN ?_ ?_ | refine fkM ?_ ?_) <;> intro h))) | ((first | refine OpsL.same ?_ | refine OpsDL.same ?_); first | refine oK c11 rfl rfl rfl ?_ | refine oK c35 rfl rfl rfl ?_) | refine MvQ.stay ?_)
  (repeat' first | (refine Owe.same ?_; first | refine Owe.o ?_ | refine Owe.mk ?_ ?_) | (refine Fork.same ?_; (first | refine fkY ?_ | refine fkF ?_ | ((first | refine fkD ?_ ?_ | refine fkN ?_ ?_ | refine fkM ?_ ?_) <;> intro h))) | ((first | refine OpsL.same ?_ | refine OpsDL.same ?_); first | refine oK c58 rfl rfl rfl ?_) | refine MvQ.stay ?_)
  refine Sat.lp (fun n : Nat => ⟨[(9, vi .i64 n), (5, .c (ints S)), (2, .c (.rp (wrD w g so x))), (3, .c (.rp (scD (w, g, l))))], [], 1⟩)
    (fun n => n ≤ S.length) (fun n => S.length - n) 0 [0] (Nat.zero_le _) ?_ ?_
  · (refine qis ?_ ?_ <;> (repeat' first | exact rfl | (refine qS ?_; constructor)))
  · intro n hn
    refine Fork.dec (fun hlt => ?_) (fun hlt => ?_)
    · have hlt : n < S.length := by omega
      have hn1 : 0 ≤ (n : Int) / w ∧ (n : Int) / w < g := by
        refine ⟨Int.ediv_nonneg (by omega) (by omega), Int.ediv_lt_of_lt_mul (by omega) ?_⟩
        rw [Int.mul_comm]; omega
      have hn2 := Int.emod_nonneg (n : Int) (show w ≠ 0 by omega)
      have hn3 := Int.emod_lt_of_pos (n : Int) (show 0 < w by omega)
      have c59 : ∀ i, i < l.length → PFD Tryz.prog 59 [ryv (l.getD i ryd), .agg [int ((n : Int).tmod w), int ((n : Int).tdiv w)]] (vbl (hitB w n (l.getD i ryd))) := fun i hi => by
        have h := C59 (r := l.getD i ryd) (c := ((n : Int) % w, (n : Int) / w)) ⟨hO i hi, by simp only [inG]; omega⟩
        rw [Int.tmod_eq_emod_of_nonneg (by omega), Int.tdiv_eq_ediv_of_nonneg (by omega)]
        exact h
      (repeat' first | (refine Owe.same ?_; first | refine Owe.o ?_ | refine Owe.mk ?_ ?_) | (refine Fork.same ?_; (first | refine fkD ?_ ?_ | refine fkN ?_ ?_ | refine fkM ?_ ?_) <;> intro h) | refine MvQ.stay ?_)
      refine Sat.lp (fun i : Nat => ⟨[(11, vi .i64 i), (10, vbl ((l.take i).any (hitB w n))), (9, vi .i64 n), (5, .c (ints S)), (2, .c (.rp (wrD w g so x))), (3, .c (.rp (scD (w, g, l))))], [], 1⟩)
        (fun i => i ≤ l.length) (fun i => l.length - i) 0 [0] (Nat.zero_le _) ?_ ?_
      · (refine qis ?_ ?_ <;> (repeat' first | exact rfl | (refine qS ?_; constructor)))
      · intro i hi
        refine Fork.dec (fun hli => ?_) (fun hli => ?_)
        · have hli : i < l.length := by
            have hli : (i : Int) < (l.length : Int) := hli
            omega
          have ea := any_take (p := hitB w n) (d := ryd) hli
          have c := c59 i hli
          have hdv : (n : Int).tdiv w = (n : Int) / w := Int.tdiv_eq_ediv_of_nonneg (by omega)
          have hle : (n : Int) / w ≤ 144 := by omega
          (repeat' first | (refine Owe.same ?_; first | refine Owe.o ?_ | refine Owe.mk ?_ ?_) | (refine Fork.same ?_; (first | refine fkD ?_ ?_ | refine fkN ?_ ?_ | refine fkM ?_ ?_) <;> intro h) | ((first | refine OpsL.same ?_ | refine OpsDL.same ?_); first | refine pK c rfl rfl ?_) | refine MvQ.stay ?_)
          · refine again (i + 1) [0] hli (by omega) ?_
            rw [ea, h, Bool.true_or]
            (refine qis ?_ ?_ <;> (repeat' first | exact rfl | (refine qS ?_; constructor)))
          · refine again (i + 1) [0] hli (by omega) ?_
            rw [ea, h, Bool.false_or]
            (refine qis ?_ ?_ <;> (repeat' first | exact rfl | (refine qS ?_; constructor)))
        · have : i = l.length := by
            have hli : ¬ (i : Int) < (l.length : Int) := hli
            omega
          subst this
          rw [List.take_length]
          obtain ⟨ha, hb⟩ := hT.at_ n (by omega)
          have hs1 : S.getD n 0 = 1 → so.getD n false = false := fun h => by
            rw [h, sgm] at ha
            cases hc : so.getD n false
            · rfl
            · rw [hc, if_pos rfl] at ha; omega
          have hs2 : S.getD n 0 = 2 → so.getD n false = true := fun h => by
            rw [h, sgm] at ha
            cases hc : so.getD n false
            · rw [hc, if_neg (by decide)] at ha; omega
            · rfl
          have hs3 : ¬ S.getD n 0 = 3 := fun h => by
            rcases sgm_bd (so := so) (i := n) with e | e <;> omega
          have hs4 : decide (S.getD n 0 = 0) = !l.any (hitB w n) := by
            rw [Bool.eq_iff_iff, decide_eq_true_eq, hb, Bool.not_eq_true', List.any_eq_false]
            simp
          have hlS : (n : Int) < (so.length : Int) := by omega
          clear ha hb c59 hT
          have hlz : (n : Int) < (S.length : Int) := by omega
          (repeat' first | (refine Owe.same ?_; first | refine Owe.o ?_ | refine Owe.mk ?_ ?_) | (refine Fork.same ?_; (first | refine fkD ?_ ?_ | refine fkN ?_ ?_ | refine fkM ?_ ?_) <;> intro h) | refine MvQ.stay ?_)
          all_goals first
            | (exfalso; simp only [Int.toNat_natCast] at *; simp_all; done)
            | (refine again (n + 1) [0] hlt (by omega) ?_; (refine qis ?_ ?_ <;> (repeat' first | exact rfl | (refine qS ?_; constructor))); done)
            | exact absurd hs4 h
    · have : n = S.length := by omega
      subst this
      (repeat' first | (refine Owe.same ?_; first | refine Owe.o ?_ | refine Owe.mk ?_ ?_) | (refine Fork.same ?_; (first | refine fkD ?_ ?_ | refine fkN ?_ ?_ | refine fkM ?_ ?_) <;> intro h) | refine MvQ.stay ?_)
      (refine rqK rfl ?_; (repeat' first | exact rfl | (refine qS ?_; constructor)))
end Go.Pw

set_option linter.unusedVariables false
namespace Go.Pw
open Go Go.RowKit
theorem arg_rys {v : V} (h : Arg false [.sl [.int .i64, .int .i64, .int .i64, .int .i64, .bool]] v) : ∃ l : List Ry, RI v (.c (rys l)) ∧ l.length ≤ maxLen := by
  obtain ⟨d, rfl, h1⟩ := arg_c h
  obtain ⟨l, h2, h3⟩ := okD_list ryd (fun ds => row5) h1
  exact ⟨l, VEq.ri (.c _ _ h2), h3.1⟩
theorem row1b {ds : List D} (h : OkDs [.bool] ds) : ∃ b : Bool, ds = b1 b ∧ True := by
  obtain ⟨d1, e1, rfl, a1, k1⟩ := okDs_cons h
  obtain ⟨x, rfl⟩ := okD_bool a1
  rw [okDs_nil k1]
  exact ⟨x, rfl, trivial⟩
theorem arg_world {v : V} (h : Arg true [.int .i64, .int .i64, .sl [.bool], .int .i64, .int .i64, .int .i64, .int .i64, .bool] v) : ∃ (w g : Int) (so : List Bool) (x : Ry), RI v (wrv w g so x) := by
  obtain ⟨ds, rfl, h1⟩ := arg_agg h
  obtain ⟨d1, e1, rfl, a1, k1⟩ := okDs_cons h1
  obtain ⟨d2, e2, rfl, a2, k2⟩ := okDs_cons k1
  obtain ⟨d3, e3, rfl, a3, k3⟩ := okDs_cons k2
  obtain ⟨d4, e4, rfl, a4, k4⟩ := okDs_cons k3
  obtain ⟨d5, e5, rfl, a5, k5⟩ := okDs_cons k4
  obtain ⟨d6, e6, rfl, a6, k6⟩ := okDs_cons k5
  obtain ⟨d7, e7, rfl, a7, k7⟩ := okDs_cons k6
  obtain ⟨d8, e8, rfl, a8, k8⟩ := okDs_cons k7
  obtain ⟨n1, rfl, b1'⟩ := okD_int a1
  obtain ⟨n2, rfl, b2⟩ := okD_int a2
  obtain ⟨so, h3, h4⟩ := okD_list false (fun ds => row1b) a3
  obtain ⟨n4, rfl, b4⟩ := okD_int a4
  obtain ⟨n5, rfl, b5⟩ := okD_int a5
  obtain ⟨n6, rfl, b6⟩ := okD_int a6
  obtain ⟨n7, rfl, b7⟩ := okD_int a7
  obtain ⟨b, rfl⟩ := okD_bool a8
  rw [okDs_nil k8]
  refine ⟨n1, n2, so, ((n4, n5), (n6, n7), b), VEq.ri (.agg _ _ rfl fun i x y hx hy => ?_)⟩
  match i with
  | 0 => simp at hx hy; subst hx; subst hy; exact .refl _
  | 1 => simp at hx hy; subst hx; subst hy; exact .refl _
  | 2 => simp at hx hy; subst hx; subst hy; exact h3
  | 3 => simp at hx hy; subst hx; subst hy; exact .refl _
  | 4 => simp at hx hy; subst hx; subst hy; exact .refl _
  | 5 => simp at hx hy; subst hx; subst hy; exact .refl _
  | 6 => simp at hx hy; subst hx; subst hy; exact .refl _
  | 7 => simp at hx hy; subst hx; subst hy; exact .refl _
  | i + 8 => simp at hx
end Go.Pw

set_option linter.unusedSimpArgs false
set_option linter.unusedVariables false
namespace Go.Pw
set_option maxRecDepth 2000
open Go Go.Proofs A1 A2 A3 A4
end Go.Pw

set_option linter.unusedSimpArgs false
set_option linter.unusedVariables false
namespace Go.Pw
set_option maxRecDepth 2000
open Go Go.Proofs A1 A2 A3 A4
end Go.Pw

set_option linter.unusedSimpArgs false
set_option linter.unusedVariables false
namespace Go.Pw
set_option maxRecDepth 2000
open Go Go.Proofs A1 A2 A3 A4
end Go.Pw

set_option linter.unusedSimpArgs false
set_option linter.unusedVariables false
namespace Go.Pw
set_option maxRecDepth 2000
open Go Go.Proofs A1 A2 A3 A4
end Go.Pw

set_option linter.unusedVariables false
set_option maxHeartbeats 2000000
set_option maxRecDepth 100000
namespace Go.Pw
open Go Go.Proofs
/-- moonpool/moonpoolref04.CopyScene -/
def lc11u : LCode :=
  (.seq (.region [⟨some 1, .boxS (.tmp 0), none⟩, ⟨some 2, .alloc [(.int .i64 0), (.int .i64 0), (.slice none 0 0)], none⟩]) (.seq (.regionD [⟨some 3, .fld 0 (.tmp 1), none⟩, ⟨some
    4, .load false 1 (.tmp 3), none⟩, ⟨some 5, .fld 1 (.tmp 1), none⟩, ⟨some 6, .load false 1 (.tmp 5), none⟩, ⟨some 7, .lit false 51 5 [], none⟩, ⟨some 8, .fld 2 (.tmp 1), none⟩,
    ⟨some 9, .load false 1 (.tmp 8), none⟩, ⟨some 10, .append true 51 5 40 (.tmp 7) (.tmp 9), none⟩, ⟨some 11, .build [(.int .i64 0), (.int .i64 0), (.slice none 0 0)] [(0, 1, (.tmp
    4)), (1, 1, (.tmp 6)), (2, 1, (.tmp 10))], none⟩, ⟨none, .store 3 (.tmp 2) (.tmp 11), none⟩] [0, 1, 0, 4, 0, 0, 32, 112, 255, 511] [0, 1, 2, 3, 4, 5, 6, 7, 8, 9]) .ret))
theorem low11u : lowF Tryz.prog [1, 10] Tryz.f11 = some (12, lc11u.strip, [.cell 2 true 3]) := by kernel_rfl
theorem fn11u : FnOk Tryz.prog 11 12 lc11u [.cell 2 true 3] := ⟨Tryz.call11, [1, 10], _, Tryz.func11, low11u⟩
end Go.Pw

set_option linter.unusedSimpArgs false
set_option linter.unusedVariables false
namespace Go.Pw
set_option maxRecDepth 2000
open Go Go.Proofs A1 A2 A3 A4
end Go.Pw

set_option linter.unusedSimpArgs false
set_option linter.unusedVariables false
namespace Go.Pw
set_option maxRecDepth 2000
open Go Go.Proofs A1 A2 A3 A4
end Go.Pw

set_option linter.unusedSimpArgs false
set_option linter.unusedVariables false
set_option maxHeartbeats 1000000
namespace Go.Pw
set_option maxRecDepth 2000
open Go Go.Proofs A1 A2 A3 A4
end Go.Pw

set_option linter.unusedSimpArgs false
set_option linter.unusedVariables false
namespace Go.Pw
set_option maxRecDepth 2000
open Go Go.Proofs A1 A2 A3 A4
end Go.Pw

set_option linter.unusedSimpArgs false
set_option linter.unusedVariables false
set_option maxHeartbeats 1000000
namespace Go.Pw
set_option maxRecDepth 2000
open Go Go.Proofs A1 A2 A3 A4
end Go.Pw

set_option linter.unusedSimpArgs false
set_option linter.unusedVariables false
namespace Go.Pw
set_option maxRecDepth 2000
open Go Go.Proofs A1 A2 A3 A4
end Go.Pw

set_option linter.unusedSimpArgs false
set_option linter.unusedVariables false
set_option maxHeartbeats 1000000
namespace Go.Pw
set_option maxRecDepth 2000
open Go Go.Proofs A1 A2 A3 A4
end Go.Pw

set_option linter.unusedSimpArgs false
set_option linter.unusedVariables false
set_option maxHeartbeats 4000000
namespace Go.Pw
set_option maxRecDepth 2000
open Go Go.Proofs A1 A2 A3 A4
end Go.Pw

set_option linter.unusedSimpArgs false
set_option linter.unusedVariables false
namespace Go.Pw
set_option maxRecDepth 2000
open Go Go.Proofs A1 A2 A3 A4
end Go.Pw

set_option linter.unusedSimpArgs false
set_option linter.unusedVariables false
namespace Go.Pw
set_option maxRecDepth 2000
open Go Go.Proofs A1 A2 A3 A4
end Go.Pw

set_option linter.unusedSimpArgs false
set_option linter.unusedVariables false
set_option maxHeartbeats 1000000
namespace Go.Pw
set_option maxRecDepth 2000
open Go Go.Proofs A1 A2 A3 A4
end Go.Pw

set_option linter.unusedSimpArgs false
set_option linter.unusedVariables false
set_option maxHeartbeats 1000000
namespace Go.Pw
set_option maxRecDepth 2000
open Go Go.Proofs A1 A2 A3 A4
end Go.Pw

set_option linter.unusedSimpArgs false
set_option linter.unusedVariables false
set_option maxHeartbeats 1000000
namespace Go.Pw
set_option maxRecDepth 2000
open Go Go.Proofs A1 A2 A3 A4
end Go.Pw

set_option linter.unusedSimpArgs false
set_option linter.unusedVariables false
set_option maxHeartbeats 2000000
namespace Go.Pw
set_option maxRecDepth 2000
open Go Go.Proofs A1 A2 A3 A4
end Go.Pw

set_option linter.unusedSimpArgs false
set_option linter.unusedVariables false
set_option maxHeartbeats 4000000
namespace Go.Pw
set_option maxRecDepth 2000
open Go Go.Proofs A1 A2 A3 A4
end Go.Pw

set_option linter.unusedSimpArgs false
set_option linter.unusedVariables false
set_option maxHeartbeats 1000000
namespace Go.Pw
open Go.RowKit Go.Lib
set_option maxRecDepth 2000
open Go Go.Proofs A1 A2 A3 A4
theorem jn_len {c : UInt8} {M : Nat} : ∀ {l : List By}, (∀ x ∈ l, x.length ≤ M) → (jnG c l).length ≤ l.length * (M + 1)
  | [], _ => by simp [jnG]
  | [x], h => by have := h x (by simp); simp [jnG]; omega
  | x :: y :: r, h => by
    have h1 := jn_len (c := c) (M := M) (l := y :: r) (fun z hz => h z (List.mem_cons_of_mem _ hz))
    have h2 := h x (by simp)
    rw [jn_cons (by simp), List.length_append, List.length_cons, List.length_cons, Nat.add_mul, Nat.one_mul]
    omega
/-- The words of numbers. -/
abbrev wdL (l : List Int) : List By := l.map itoa
def wdS (l : List Int) : By := jnG 32 (wdL l)
theorem wd_len {l : List Int} (h : ∀ n ∈ l, i64P n) : (wdS l).length ≤ l.length * 22 := by
  have := jn_len (c := 32) (M := 21) (l := wdL l) (fun x hx => by
    obtain ⟨n, hn, rfl⟩ := List.mem_map.1 hx
    exact itoa_length_le n (h n hn).1 (h n hn).2)
  rw [List.length_map] at this; exact this
theorem tk1 {α : Type} {l : List α} {k : Nat} (d : α) (h : k < l.length) : l.take (k + 1) = l.take k ++ [l.getD k d] := by
  rw [List.take_add_one, List.getElem?_eq_getElem h, List.getD_eq_getElem?_getD, List.getElem?_eq_getElem h]; rfl
theorem C41 {l : List Int} : (l.length ≤ 1000 ∧ ∀ n ∈ l, i64P n) → PFD Tryz.prog 41 [.c (ints l)] (sv (wdS l)) := fun ⟨hl, h⟩ => by
  refine pi1 fn41 ?_
  (repeat' first | (refine Owe.same ?_; first | refine Owe.o ?_ | refine Owe.mk ?_ ?_) | (refine Fork.same ?_; (first | refine fkD ?_ ?_ | refine fkN ?_ ?_ | refine fkM ?_ ?_) <;> intro h) | refine MvQ.stay ?_)
  refine Sat.nilS 3 9 1 (fun i => rS (([] : List By).getD i [])) rfl ?_
  refine Sat.lp (fun k : Nat => ⟨[(8, vi .i64 k), (7, vi .i64 l.length), (6, .c (ints l)), (3, .c (.ms 0 (wdL (l.take k)).length))], [(0, rowv 9 1 rS [] (wdL (l.take k)))], 1⟩)
    (fun k => k ≤ l.length) (fun k => l.length - k) 0 [0] (Nat.zero_le _) ?_ ?_
  · (refine qis ?_ ?_ <;> (repeat' first | exact rfl | (refine qS ?_; constructor)))
  · intro k hk
    refine Fork.dec (fun hlt => ?_) (fun hlt => ?_)
    · have hlt : k < l.length := by omega
      have hi : i64P (l.getD (k : Int).toNat 0) := h _ (by
        show l.getD k 0 ∈ l
        rw [List.getD_eq_getElem?_getD, List.getElem?_eq_getElem hlt]; exact List.getElem_mem ..)
      have h84 := C84 hi
      have ht : wdL (l.take (k + 1)) = wdL (l.take k) ++ [itoa (l.getD k 0)] := by
        rw [tk1 0 hlt, wdL, List.map_append]; rfl
      have hk1 : (wdL (l.take k)).length ≤ 1000 := by rw [List.length_map, List.length_take]; omega
      (repeat' first | (refine Owe.same ?_; first | refine Owe.o ?_ | refine Owe.mk ?_ ?_) | (refine Fork.same ?_; (first | refine fkY ?_ | refine fkF ?_ | ((first | refine fkD ?_ ?_ | refine fkN ?_ ?_ | refine fkM ?_ ?_) <;> intro h))) | ((first | refine OpsL.same ?_ | refine OpsDL.same ?_); first | refine oK h84 rfl rfl rfl ?_) | refine MvQ.stay ?_)
      refine again (k + 1) [1] hlt (by omega) ?_
      (refine qis ?_ ?_ <;> (repeat' first | exact rfl | (refine qS ?_; constructor)))
      · rw [ht, List.length_append]; rfl
      · exact ⟨_, rfl, ht⟩
    · have hk1 : k = l.length := by omega
      have hw : wdL (l.take k) = wdL l := by rw [List.take_of_length_le (by omega)]
      have hj := wd_len h
      have hll : (wdL l).length = l.length := List.length_map ..
      have h42 := C42 (l := wdL l) (c := 32) ⟨by omega, by show (wdS l).length ≤ _; omega⟩
      rw [hw]
      (repeat' first | (refine Owe.same ?_; first | refine Owe.o ?_ | refine Owe.mk ?_ ?_) | (refine Fork.same ?_; (first | refine fkD ?_ ?_ | refine fkN ?_ ?_ | refine fkM ?_ ?_) <;> intro h))
      refine MvQ.frz 3 _ rfl rfl (Nat.le_refl _) ?_
      (repeat' first | (refine Owe.same ?_; first | refine Owe.o ?_ | refine Owe.mk ?_ ?_) | (refine Fork.same ?_; (first | refine fkY ?_ | refine fkF ?_ | ((first | refine fkD ?_ ?_ | refine fkN ?_ ?_ | refine fkM ?_ ?_) <;> intro h))) | ((first | refine OpsL.same ?_ | refine OpsDL.same ?_); first | refine oK h42 rfl rfl rfl ?_) | refine MvQ.stay ?_)
      (refine rqK rfl ?_; (repeat' first | exact rfl | (refine qS ?_; constructor)))
theorem ix_hit {c : UInt8} {r : By} : ∀ {p : By}, c ∉ p → indexByte (p ++ c :: r) c = p.length
  | [], _ => by simp [indexByte]
  | x :: p, h => by
    rw [List.mem_cons, not_or] at h
    have e : ¬ x = c := fun e => h.1 e.symm
    have ih := ix_hit (r := r) h.2
    have : ¬ ((p.length : Int) = -1) := by omega
    simp [indexByte, e, ih, this]
theorem ix_miss {c : UInt8} : ∀ {l : By}, c ∉ l → indexByte l c = -1
  | [], _ => rfl
  | x :: l, h => by
    rw [List.mem_cons, not_or] at h
    have e : ¬ x = c := fun e => h.1 e.symm
    have ih := ix_miss h.2
    simp [indexByte, e, ih]
theorem cutB_bs {l : By} {i j : Nat} : cutB (bs l) i j = bs ((l.take j).drop i) := by simp [cutB, bs]
theorem C90h {c : UInt8} {p r : By} : c ∉ p → p.length + r.length ≤ 1000000 → PFD Tryz.prog 90 [sv (p ++ c :: r), .c (.d (.v (.string ⟨#[c]⟩)))] (.tup [sv p, sv r, vbl true]) := fun hc hl => by
  have h130 := C130 (l := p ++ c :: r) (c := c)
  rw [ix_hit hc] at h130
  have hsz : (bs (p ++ c :: r)).size = p.length + r.length + 1 := by rw [bs_size]; simp; omega
  have hs1 : (ByteArray.mk #[c]).size = 1 := rfl
  refine pi3 fn90 ?_
  (repeat' first | (refine Owe.same ?_; first | refine Owe.o ?_ | refine Owe.mk ?_ ?_) | (refine Fork.same ?_; (first | refine fkD ?_ ?_ | refine fkN ?_ ?_ | refine fkM ?_ ?_) <;> intro h) | ((first | refine OpsL.same ?_ | refine OpsDL.same ?_); first | refine pK h130 rfl rfl ?_) | refine MvQ.stay ?_)
  · (refine rqK rfl ?_; (repeat' first | exact rfl | (refine qS ?_; constructor)))
    · refine VEq.str ?_
      rw [cutB_bs]
      simp
    · refine VEq.str ?_
      have e : ((p.length : Int) + ((ByteArray.mk #[c]).size : Nat)).toNat = p.length + 1 := by rw [hs1]; omega
      rw [e]
      simp [bs]
  · omega
theorem C90m {c : UInt8} {s : By} : c ∉ s → PFD Tryz.prog 90 [sv s, .c (.d (.v (.string ⟨#[c]⟩)))] (.tup [sv s, sv [], vbl false]) := fun hc => by
  have h130 := C130 (l := s) (c := c)
  rw [ix_miss hc] at h130
  refine pi3 fn90 ?_
  (repeat' first | (refine Owe.same ?_; first | refine Owe.o ?_ | refine Owe.mk ?_ ?_) | (refine Fork.same ?_; (first | refine fkD ?_ ?_ | refine fkN ?_ ?_ | refine fkM ?_ ?_) <;> intro h) | ((first | refine OpsL.same ?_ | refine OpsDL.same ?_); first | refine pK h130 rfl rfl ?_) | refine MvQ.stay ?_)
  · omega
  · (refine rqK rfl ?_; (repeat' first | exact rfl | (refine qS ?_; constructor)))
theorem C48h {c : UInt8} {p r : By} : c ∉ p → p.length + r.length ≤ 1000000 → PFD Tryz.prog 48 [sv (p ++ c :: r), .c (.d (.v (.string ⟨#[c]⟩)))] (.tup [sv p, sv r, vbl true]) := fun hc hl => by
  have h := C90h hc hl
  refine pi3 fn48 ?_
  (repeat' first | (refine Owe.same ?_; first | refine Owe.o ?_ | refine Owe.mk ?_ ?_) | (refine Fork.same ?_; (first | refine fkD ?_ ?_ | refine fkN ?_ ?_ | refine fkM ?_ ?_) <;> intro h) | ((first | refine OpsL.same ?_ | refine OpsDL.same ?_); first | refine pK h rfl rfl ?_) | refine MvQ.stay ?_)
  (refine rqK rfl ?_; (repeat' first | exact rfl | (refine qS ?_; constructor)))
theorem C48m {c : UInt8} {s : By} : c ∉ s → PFD Tryz.prog 48 [sv s, .c (.d (.v (.string ⟨#[c]⟩)))] (.tup [sv s, sv [], vbl false]) := fun hc => by
  have h := C90m hc
  refine pi3 fn48 ?_
  (repeat' first | (refine Owe.same ?_; first | refine Owe.o ?_ | refine Owe.mk ?_ ?_) | (refine Fork.same ?_; (first | refine fkD ?_ ?_ | refine fkN ?_ ?_ | refine fkM ?_ ?_) <;> intro h) | ((first | refine OpsL.same ?_ | refine OpsDL.same ?_); first | refine pK h rfl rfl ?_) | refine MvQ.stay ?_)
  (refine rqK rfl ?_; (repeat' first | exact rfl | (refine qS ?_; constructor)))
end Go.Pw
