/- Steps toward the row of this claim: part 4 of 6. Proved as named below, on no condition but those that each theorem states. -/
import Derived.Test.YtggcobcogdhfhaaGreatDoorSonarStringsC
import Derived.Test.YtggcobcogdhfhaaGreatDoorProg
set_option linter.unusedVariables false
set_option maxHeartbeats 2000000
set_option maxRecDepth 100000
namespace Go.Pw
open Go Go.Proofs
/-- moonpool/moonpoollaw04.Devices -/
def lc31 : LCode :=
  (.seq (.region [⟨some 0, .mv (.const (.slice none 0 0)), none⟩]) (.seq (.region [⟨some 1, .build [(.int .i64 0), (.int .i64 0), (.int .i64 0)] [(0, 1, (.const (.int .i64 1))), (1,
    1, (.const (.int .i64 2))), (2, 1, (.const (.int .i64 3)))], none⟩, ⟨some 2, .build [(.int .i64 0), (.int .i64 0), (.int .i64 0)] [(0, 1, (.const (.int .i64 2))), (1, 1, (.const
    (.int .i64 1))), (2, 1, (.const (.int .i64 3)))], none⟩, ⟨some 3, .build [(.int .i64 0), (.int .i64 0), (.int .i64 0)] [(0, 1, (.const (.int .i64 4))), (1, 1, (.const (.int .i64
    2))), (2, 1, (.const (.int .i64 2)))], none⟩, ⟨some 4, .lit false 90 3 [(.tmp 1), (.tmp 2), (.tmp 3)], none⟩, ⟨some 0, .mv (.tmp 4), none⟩]) .ret))
theorem low31 : lowF Tryz.prog [] Tryz.f31 = some (5, lc31.strip, [.tmp 0]) := by kernel_rfl
theorem fn31 : FnOk Tryz.prog 31 5 lc31 [.tmp 0] := ⟨Tryz.call31, [], _, Tryz.func31, low31⟩
/-- moonpool/sonar.EchoesIn -/
def lc32 : LCode :=
  (.seq (.region [⟨some 6, .mv (.const (.slice none 0 0)), none⟩, ⟨some 7, .mv (.const (.int .i64 0)), none⟩]) (.seq (.region [⟨some 19, .mv (.tmp 0), none⟩, ⟨some 20, .mv (.tmp 1),
    none⟩, ⟨some 21, .call (.func 68) [(.tmp 19), (.tmp 20)], none⟩, ⟨some 22, .mv (.tmp 1), none⟩, ⟨some 23, .len (.tmp 22), none⟩, ⟨some 24, .mv (.tmp 0), none⟩, ⟨some 25, .len
    (.tmp 24), none⟩, ⟨some 26, .bin .geq (.tmp 23) (.tmp 25), none⟩, ⟨some 27, .call (.func 56) [(.tmp 26), (.const (.int .i64 10))], none⟩, ⟨some 28, .mv (.tmp 2), none⟩, ⟨some
    29, .call (.func 69) [(.tmp 28), (.const (.int .i64 1)), (.const (.int .i64 1000000000000000))], none⟩, ⟨some 30, .call (.func 56) [(.tmp 29), (.const (.int .i64 2))], none⟩,
    ⟨some 31, .lit false 33 1 [(.tmp 21), (.tmp 27), (.tmp 30)], none⟩, ⟨some 32, .call (.func 55) [(.tmp 31)], none⟩, ⟨some 8, .mv (.tmp 32), none⟩]) (.seq (.seq (.region [⟨some
    33, .mv (.tmp 8), none⟩, ⟨some 34, .bin .neq (.tmp 33) (.const (.int .i64 0)), none⟩]) (.cond (.tmp 34) (.seq (.region [⟨some 35, .mv (.tmp 8), none⟩, ⟨some 6, .mv (.const
    (.slice none 0 0)), none⟩, ⟨some 7, .mv (.tmp 35), none⟩]) .ret) .skip)) (.seq (.region [⟨some 9, .mv (.const (.slice none 0 0)), none⟩]) (.seq (.seq (.region [⟨some 36, .mv
    (.tmp 1), none⟩, ⟨some 37, .len (.tmp 36), none⟩, ⟨some 38, .mv (.tmp 0), none⟩, ⟨some 39, .len (.tmp 38), none⟩, ⟨some 40, .bin .sub (.tmp 37) (.tmp 39), none⟩, ⟨some 41, .bin
    .add (.tmp 40) (.const (.int .i64 1)), none⟩, ⟨some 42, .mv (.const (.int .i64 0)), none⟩]) (.block 0 (.loop (.seq (.region [⟨some 43, .bin .lss (.tmp 42) (.tmp 41), none⟩])
    (.seq (.cond (.tmp 43) .skip (.exit 0)) (.seq (.block 1 (.seq (.region [⟨some 44, .mv (.tmp 42), none⟩, ⟨some 10, .mv (.tmp 44), none⟩]) (.seq (.region [⟨some 45, .mv (.tmp 0),
    none⟩, ⟨some 46, .mv (.tmp 1), none⟩, ⟨some 47, .mv (.tmp 10), none⟩, ⟨some 48, .slc 2 (.tmp 46) (some (.tmp 47)) none, none⟩, ⟨some 49, .call (.func 70) [(.tmp 45), (.tmp 48)],
    none⟩, ⟨some 11, .mv (.tmp 49), none⟩]) (.seq (.region [⟨some 50, .mv (.tmp 11), none⟩, ⟨some 51, .reC (.tmp 50), none⟩, ⟨some 52, .toI (.tmp 51), none⟩, ⟨some 53, .mv (.tmp
    11), none⟩, ⟨some 54, .imC (.tmp 53), none⟩, ⟨some 55, .toI (.tmp 54), none⟩, ⟨some 12, .mv (.tmp 52), none⟩, ⟨some 13, .mv (.tmp 55), none⟩]) (.region [⟨some 56, .mv (.tmp 9),
    none⟩, ⟨some 57, .mv (.tmp 12), none⟩, ⟨some 58, .mv (.tmp 12), none⟩, ⟨some 59, .bin .mul (.tmp 57) (.tmp 58), none⟩, ⟨some 60, .mv (.tmp 13), none⟩, ⟨some 61, .mv (.tmp 13),
    none⟩, ⟨some 62, .bin .mul (.tmp 60) (.tmp 61), none⟩, ⟨some 63, .bin .add (.tmp 59) (.tmp 62), none⟩, ⟨some 64, .lit false 3 1 [(.tmp 63)], none⟩, ⟨some 65, .append true 3 1 8
    (.tmp 56) (.tmp 64), none⟩, ⟨some 9, .mv (.tmp 65), none⟩]))))) (.region [⟨some 66, .bin .add (.tmp 42) (.const (.int .i64 1)), none⟩, ⟨some 42, .mv (.tmp 66), none⟩])))))))
    (.seq (.region [⟨some 14, .mv (.const (.slice none 0 0)), none⟩]) (.seq (.seq (.region [⟨some 67, .mv (.tmp 9), none⟩, ⟨some 68, .len (.tmp 67), none⟩, ⟨some 69, .mv (.const
    (.int .i64 0)), none⟩]) (.block 2 (.loop (.seq (.region [⟨some 70, .bin .lss (.tmp 69) (.tmp 68), none⟩]) (.seq (.cond (.tmp 70) .skip (.exit 2)) (.seq (.block 3 (.seq (.region
    [⟨some 71, .mv (.tmp 69), none⟩, ⟨some 72, .idx 1 (.tmp 67) (.tmp 69), none⟩, ⟨some 73, .load false 1 (.tmp 72), none⟩, ⟨some 16, .alloc [(.int .i64 0)], none⟩, ⟨some 15, .mv
    (.tmp 71), none⟩, ⟨none, .store 1 (.tmp 16) (.tmp 73), none⟩]) (.seq (.region [⟨some 74, .mv (.tmp 9), none⟩, ⟨some 75, .mv (.tmp 15), none⟩, ⟨some 76, .mv (.tmp 0), none⟩,
    ⟨some 77, .len (.tmp 76), none⟩, ⟨some 78, .bin .sub (.tmp 75) (.tmp 77), none⟩, ⟨some 79, .bin .add (.tmp 78) (.const (.int .i64 1)), none⟩, ⟨some 80, .mm true [(.const (.int
    .i64 0)), (.tmp 79)], none⟩, ⟨some 81, .mv (.tmp 15), none⟩, ⟨some 82, .slc 1 (.tmp 74) (some (.tmp 80)) (some (.tmp 81)), none⟩, ⟨some 17, .mv (.tmp 82), none⟩]) (.seq (.region
    [⟨some 83, .mv (.tmp 9), none⟩, ⟨some 84, .mv (.tmp 15), none⟩, ⟨some 85, .mv (.tmp 9), none⟩, ⟨some 86, .len (.tmp 85), none⟩, ⟨some 87, .mv (.tmp 15), none⟩, ⟨some 88, .mv
    (.tmp 0), none⟩, ⟨some 89, .len (.tmp 88), none⟩, ⟨some 90, .bin .add (.tmp 87) (.tmp 89), none⟩, ⟨some 91, .mm false [(.tmp 86), (.tmp 90)], none⟩, ⟨some 92, .slc 1 (.tmp 83)
    (some (.tmp 84)) (some (.tmp 91)), none⟩, ⟨some 18, .mv (.tmp 92), none⟩]) (.seq (.stop (.regionD [⟨some 93, .load false 1 (.tmp 16), none⟩, ⟨some 94, .mv (.tmp 2), none⟩, ⟨some
    95, .bin .geq (.tmp 93) (.tmp 94), none⟩, ⟨some 96, .mv (.tmp 95), none⟩, ⟨some 97, .mv (.tmp 17), some (96, true)⟩, ⟨some 98, .mkfn 72 [(.tmp 16)], some (96, true)⟩, ⟨some 99,
    .call (.func 71) [(.tmp 97), (.tmp 98)], some (96, true)⟩, ⟨some 100, .un .not (.tmp 99), some (96, true)⟩, ⟨some 101, .pick (.tmp 96) (.tmp 100) (.const (.bool false)), none⟩,
    ⟨some 102, .mv (.tmp 101), none⟩, ⟨some 103, .mv (.tmp 18), some (102, true)⟩, ⟨some 104, .call (.func 73) [(.tmp 103)], some (102, true)⟩, ⟨some 105, .load false 1 (.tmp 16),
    some (102, true)⟩, ⟨some 106, .bin .eql (.tmp 104) (.tmp 105), some (102, true)⟩, ⟨some 107, .pick (.tmp 102) (.tmp 106) (.const (.bool false)), none⟩] [0, 0, 3, 7, 15, 15, 63,
    127, 255, 511, 1023, 2047, 1023, 8191, 16383] [0, 1, 2, 3, 4, 5, 6, 7, 8, 9, 10, 11, 12, 13, 14])) (.cond (.tmp 107) (.region [⟨some 108, .mv (.tmp 14), none⟩, ⟨some 109, .mv
    (.tmp 15), none⟩, ⟨some 110, .lit false 3 1 [(.tmp 109)], none⟩, ⟨some 111, .append true 3 1 8 (.tmp 108) (.tmp 110), none⟩, ⟨some 14, .mv (.tmp 111), none⟩]) .skip))))))
    (.region [⟨some 112, .bin .add (.tmp 69) (.const (.int .i64 1)), none⟩, ⟨some 69, .mv (.tmp 112), none⟩]))))))) (.seq (.region [⟨some 113, .mv (.tmp 14), none⟩, ⟨some 6, .mv
    (.tmp 113), none⟩, ⟨some 7, .mv (.const (.int .i64 0)), none⟩]) .ret))))))))
theorem low32 : lowF Tryz.prog [65, 111] Tryz.f32 = some (114, lc32.strip, [.tmp 6, .tmp 7]) := by kernel_rfl
theorem fn32 : FnOk Tryz.prog 32 114 lc32 [.tmp 6, .tmp 7] := ⟨Tryz.call32, [65, 111], _, Tryz.func32, low32⟩
/-- moonpool/sonar.DepthIn -/
def lc33 : LCode :=
  (.seq (.region [⟨some 4, .alloc [(.int .i64 0), (.int .i64 0)], none⟩, ⟨some 5, .mv (.const (.int .i64 0)), none⟩]) (.seq (.seq (.region [⟨some 7, .mv (.tmp 0), none⟩, ⟨some 8,
    .mv (.tmp 1), none⟩, ⟨some 9, .call (.func 74) [(.tmp 7), (.tmp 8), (.const (.int .i64 100000))], none⟩, ⟨some 6, .mv (.tmp 9), none⟩]) (.seq (.region [⟨some 10, .mv (.tmp 6),
    none⟩, ⟨some 11, .bin .neq (.tmp 10) (.const (.int .i64 0)), none⟩]) (.cond (.tmp 11) (.seq (.region [⟨some 12, .build [(.int .i64 0), (.int .i64 0)] [], none⟩, ⟨some 13, .mv
    (.tmp 6), none⟩, ⟨none, .store 2 (.tmp 4) (.tmp 12), none⟩, ⟨some 5, .mv (.tmp 13), none⟩]) .ret) .skip))) (.seq (.region [⟨some 14, .mv (.tmp 0), none⟩, ⟨some 15, .mv (.tmp 1),
    none⟩, ⟨some 16, .call (.func 75) [(.tmp 14), (.tmp 15), (.func 76)], none⟩, ⟨some 17, .call (.func 77) [(.tmp 16)], none⟩, ⟨some 18, .mv (.tmp 0), none⟩, ⟨some 19, .mv (.tmp
    1), none⟩, ⟨some 20, .call (.func 75) [(.tmp 18), (.tmp 19), (.func 78)], none⟩, ⟨some 21, .call (.func 79) [(.tmp 20)], none⟩, ⟨some 22, .build [(.int .i64 0), (.int .i64 0)]
    [(0, 1, (.tmp 17)), (1, 1, (.tmp 21))], none⟩, ⟨none, .store 2 (.tmp 4) (.tmp 22), none⟩, ⟨some 5, .mv (.const (.int .i64 0)), none⟩]) .ret)))
theorem low33 : lowF Tryz.prog [] Tryz.f33 = some (23, lc33.strip, [.cell 4 true 2, .tmp 5]) := by kernel_rfl
theorem fn33 : FnOk Tryz.prog 33 23 lc33 [.cell 4 true 2, .tmp 5] := ⟨Tryz.call33, [], _, Tryz.func33, low33⟩
/-- moonpool/moonpoollaw04.Layers -/
def lc34 : LCode :=
  (.seq (.region [⟨some 0, .mv (.const (.slice none 0 0)), none⟩]) (.seq (.region [⟨some 1, .build [(.int .i64 0), (.int .i64 0)] [(0, 1, (.const (.int .i64 4))), (1, 1, (.const
    (.int .i64 5)))], none⟩, ⟨some 2, .build [(.int .i64 0), (.int .i64 0), (.int .i64 0)] [(0, 1, (.const (.int .i64 10))), (1, 2, (.tmp 1))], none⟩, ⟨some 3, .build [(.int .i64
    0), (.int .i64 0)] [(0, 1, (.const (.int .i64 5))), (1, 1, (.const (.int .i64 6)))], none⟩, ⟨some 4, .build [(.int .i64 0), (.int .i64 0), (.int .i64 0)] [(0, 1, (.const (.int
    .i64 20))), (1, 2, (.tmp 3))], none⟩, ⟨some 5, .lit false 146 3 [(.tmp 2), (.tmp 4)], none⟩, ⟨some 0, .mv (.tmp 5), none⟩]) .ret))
theorem low34 : lowF Tryz.prog [] Tryz.f34 = some (6, lc34.strip, [.tmp 0]) := by kernel_rfl
theorem fn34 : FnOk Tryz.prog 34 6 lc34 [.tmp 0] := ⟨Tryz.call34, [], _, Tryz.func34, low34⟩
/-- moonpool/sonar.StatesOf -/
def lc35 : LCode :=
  (.seq (.region [⟨some 1, .boxS (.tmp 0), none⟩, ⟨some 2, .mv (.const (.slice none 0 0)), none⟩, ⟨some 3, .mv (.const (.int .i64 0)), none⟩]) (.seq (.seq (.region [⟨some 5, .load
    true 3 (.tmp 1), none⟩, ⟨some 6, .call (.func 49) [(.tmp 5)], none⟩, ⟨some 4, .mv (.tmp 6), none⟩]) (.seq (.region [⟨some 7, .mv (.tmp 4), none⟩, ⟨some 8, .bin .neq (.tmp 7)
    (.const (.int .i64 0)), none⟩]) (.cond (.tmp 8) (.seq (.region [⟨some 9, .mv (.tmp 4), none⟩, ⟨some 2, .mv (.const (.slice none 0 0)), none⟩, ⟨some 3, .mv (.tmp 9), none⟩])
    .ret) .skip))) (.seq (.region [⟨some 10, .load true 3 (.tmp 1), none⟩, ⟨some 11, .call (.func 65) [(.tmp 10), (.const (.slice none 0 0))], none⟩, ⟨some 2, .mv (.tmp 11), none⟩,
    ⟨some 3, .mv (.const (.int .i64 0)), none⟩]) .ret)))
theorem low35 : lowF Tryz.prog [1] Tryz.f35 = some (12, lc35.strip, [.tmp 2, .tmp 3]) := by kernel_rfl
theorem fn35 : FnOk Tryz.prog 35 12 lc35 [.tmp 2, .tmp 3] := ⟨Tryz.call35, [1], _, Tryz.func35, low35⟩
/-- moonpool/moonpoollaw04.Scene -/
def lc36 : LCode :=
  (.seq (.region [⟨some 0, .alloc [(.int .i64 0), (.int .i64 0), (.slice none 0 0)], none⟩]) (.seq (.region [⟨some 1, .call (.func 80) [(.const (.int .i64 0)), (.const (.int .i64
    0)), (.const (.int .i64 3)), (.const (.int .i64 1)), (.const (.bool true))], none⟩, ⟨some 2, .call (.func 80) [(.const (.int .i64 0)), (.const (.int .i64 1)), (.const (.int .i64
    3)), (.const (.int .i64 1)), (.const (.bool false))], none⟩, ⟨some 3, .lit false 51 5 [(.tmp 1), (.tmp 2)], none⟩, ⟨some 4, .build [(.int .i64 0), (.int .i64 0), (.slice none 0
    0)] [(0, 1, (.const (.int .i64 4))), (1, 1, (.const (.int .i64 2))), (2, 1, (.tmp 3))], none⟩, ⟨none, .store 3 (.tmp 0) (.tmp 4), none⟩]) .ret))
theorem low36 : lowF Tryz.prog [] Tryz.f36 = some (5, lc36.strip, [.cell 0 true 3]) := by kernel_rfl
theorem fn36 : FnOk Tryz.prog 36 5 lc36 [.cell 0 true 3] := ⟨Tryz.call36, [], _, Tryz.func36, low36⟩
/-- moonpool/moonpoollaw04.Search -/
def lc38 : LCode :=
  (.seq (.region [⟨some 0, .alloc [(.int .i64 0), (.int .i64 0), (.slice none 0 0), (.slice none 0 0)], none⟩]) (.seq (.region [⟨some 1, .lit false 3 1 [(.const (.int .i64 3)),
    (.const (.int .i64 6))], none⟩, ⟨some 2, .call (.func 80) [(.const (.int .i64 0)), (.const (.int .i64 0)), (.const (.int .i64 3)), (.const (.int .i64 0)), (.const (.bool
    false))], none⟩, ⟨some 3, .build [(.int .i64 0), (.int .i64 0), (.int .i64 0), (.int .i64 0), (.bool false), (.int .i64 0)] [(0, 5, (.tmp 2)), (5, 1, (.const (.int .i64 5)))],
    none⟩, ⟨some 4, .call (.func 80) [(.const (.int .i64 0)), (.const (.int .i64 0)), (.const (.int .i64 3)), (.const (.int .i64 1)), (.const (.bool false))], none⟩, ⟨some 5, .build
    [(.int .i64 0), (.int .i64 0), (.int .i64 0), (.int .i64 0), (.bool false), (.int .i64 0)] [(0, 5, (.tmp 4)), (5, 1, (.const (.int .i64 4)))], none⟩, ⟨some 6, .call (.func 80)
    [(.const (.int .i64 0)), (.const (.int .i64 1)), (.const (.int .i64 3)), (.const (.int .i64 1)), (.const (.bool false))], none⟩, ⟨some 7, .build [(.int .i64 0), (.int .i64 0),
    (.int .i64 0), (.int .i64 0), (.bool false), (.int .i64 0)] [(0, 5, (.tmp 6)), (5, 1, (.const (.int .i64 3)))], none⟩, ⟨some 8, .lit false 154 6 [(.tmp 3), (.tmp 5), (.tmp 7)],
    none⟩, ⟨some 9, .build [(.int .i64 0), (.int .i64 0), (.slice none 0 0), (.slice none 0 0)] [(0, 1, (.const (.int .i64 4))), (1, 1, (.const (.int .i64 2))), (3, 1, (.tmp 1)),
    (2, 1, (.tmp 8))], none⟩, ⟨none, .store 4 (.tmp 0) (.tmp 9), none⟩]) .ret))
theorem low38 : lowF Tryz.prog [] Tryz.f38 = some (10, lc38.strip, [.cell 0 true 4]) := by kernel_rfl
theorem fn38 : FnOk Tryz.prog 38 10 lc38 [.cell 0 true 4] := ⟨Tryz.call38, [], _, Tryz.func38, low38⟩
/-- moonpool/moonpoolref04.SameTurns -/
def lc39 : LCode :=
  (.seq (.region [⟨some 2, .boxS (.tmp 0), none⟩, ⟨some 3, .boxS (.tmp 1), none⟩, ⟨some 4, .mv (.const (.bool false)), none⟩]) (.seq (.region [⟨some 5, .fld 0 (.tmp 2), none⟩, ⟨some
    6, .load false 1 (.tmp 5), none⟩, ⟨some 7, .fld 0 (.tmp 3), none⟩, ⟨some 8, .load false 1 (.tmp 7), none⟩, ⟨some 9, .bin .eql (.tmp 6) (.tmp 8), none⟩, ⟨some 10, .mv (.tmp 9),
    none⟩, ⟨some 11, .fld 1 (.tmp 2), some (10, true)⟩, ⟨some 12, .load false 1 (.tmp 11), some (10, true)⟩, ⟨some 13, .fld 1 (.tmp 3), some (10, true)⟩, ⟨some 14, .load false 1
    (.tmp 13), some (10, true)⟩, ⟨some 15, .call (.func 40) [(.tmp 12), (.tmp 14)], some (10, true)⟩, ⟨some 16, .pick (.tmp 10) (.tmp 15) (.const (.bool false)), none⟩, ⟨some 4, .mv
    (.tmp 16), none⟩]) .ret))
theorem low39 : lowF Tryz.prog [2, 3] Tryz.f39 = some (17, lc39.strip, [.tmp 4]) := by kernel_rfl
theorem fn39 : FnOk Tryz.prog 39 17 lc39 [.tmp 4] := ⟨Tryz.call39, [2, 3], _, Tryz.func39, low39⟩
/-- moonpool/moonpoolbase.Ints -/
def lc40 : LCode :=
  (.seq (.region [⟨some 4, .mv (.const (.bool false)), none⟩]) (.seq (.seq (.region [⟨some 6, .mv (.tmp 0), none⟩, ⟨some 7, .len (.tmp 6), none⟩, ⟨some 8, .mv (.tmp 1), none⟩, ⟨some
    9, .len (.tmp 8), none⟩, ⟨some 10, .bin .neq (.tmp 7) (.tmp 9), none⟩]) (.cond (.tmp 10) (.seq (.region [⟨some 4, .mv (.const (.bool false)), none⟩]) .ret) .skip)) (.seq (.seq
    (.region [⟨some 5, .mv (.const (.int .i64 0)), none⟩]) (.block 0 (.loop (.seq (.seq (.region [⟨some 11, .mv (.tmp 5), none⟩, ⟨some 12, .mv (.tmp 0), none⟩, ⟨some 13, .len (.tmp
    12), none⟩, ⟨some 14, .bin .lss (.tmp 11) (.tmp 13), none⟩]) (.cond (.tmp 14) .skip (.exit 0))) (.seq (.block 1 (.seq (.regionD [⟨some 17, .mv (.tmp 0), none⟩, ⟨some 18, .mv
    (.tmp 5), none⟩, ⟨some 19, .idx 1 (.tmp 17) (.tmp 18), none⟩, ⟨some 20, .load false 1 (.tmp 19), none⟩, ⟨some 21, .mv (.tmp 1), none⟩, ⟨some 22, .mv (.tmp 5), none⟩, ⟨some 23,
    .idx 1 (.tmp 21) (.tmp 22), none⟩, ⟨some 24, .load false 1 (.tmp 23), none⟩, ⟨some 25, .bin .neq (.tmp 20) (.tmp 24), none⟩] [0, 0, 3, 7, 0, 0, 48, 112, 255] [0, 1, 2, 3, 4, 5,
    6, 7, 8]) (.cond (.tmp 25) (.seq (.region [⟨some 4, .mv (.const (.bool false)), none⟩]) .ret) .skip))) (.region [⟨some 15, .mv (.tmp 5), none⟩, ⟨some 16, .bin .add (.tmp 15)
    (.const (.int .i64 1)), none⟩, ⟨some 5, .mv (.tmp 16), none⟩])))))) (.seq (.region [⟨some 4, .mv (.const (.bool true)), none⟩]) .ret))))
theorem low40 : lowF Tryz.prog [] Tryz.f40 = some (26, lc40.strip, [.tmp 4]) := by kernel_rfl
theorem fn40 : FnOk Tryz.prog 40 26 lc40 [.tmp 4] := ⟨Tryz.call40, [], _, Tryz.func40, low40⟩
/-- moonpool/sonar.words -/
def lc41 : LCode :=
  (.seq (.region [⟨some 2, .mv (.const (.string ⟨#[]⟩)), none⟩]) (.seq (.region [⟨some 3, .mv (.const (.slice none 0 0)), none⟩]) (.seq (.seq (.region [⟨some 6, .mv (.tmp 0), none⟩,
    ⟨some 7, .len (.tmp 6), none⟩, ⟨some 8, .mv (.const (.int .i64 0)), none⟩]) (.block 0 (.loop (.seq (.region [⟨some 9, .bin .lss (.tmp 8) (.tmp 7), none⟩]) (.seq (.cond (.tmp 9)
    .skip (.exit 0)) (.seq (.block 1 (.seq (.region [⟨some 10, .idx 1 (.tmp 6) (.tmp 8), none⟩, ⟨some 11, .load false 1 (.tmp 10), none⟩, ⟨some 5, .mv (.tmp 11), none⟩]) (.region
    [⟨some 12, .mv (.tmp 3), none⟩, ⟨some 13, .mv (.tmp 5), none⟩, ⟨some 14, .call (.func 84) [(.tmp 13)], none⟩, ⟨some 15, .lit false 9 1 [(.tmp 14)], none⟩, ⟨some 16, .append true
    9 1 16 (.tmp 12) (.tmp 15), none⟩, ⟨some 3, .mv (.tmp 16), none⟩]))) (.region [⟨some 17, .bin .add (.tmp 8) (.const (.int .i64 1)), none⟩, ⟨some 8, .mv (.tmp 17), none⟩])))))))
    (.seq (.region [⟨some 18, .mv (.tmp 3), none⟩, ⟨some 19, .call (.func 42) [(.tmp 18), (.const (.string ⟨#[32]⟩))], none⟩, ⟨some 2, .mv (.tmp 19), none⟩]) .ret))))
theorem low41 : lowF Tryz.prog [16] Tryz.f41 = some (20, lc41.strip, [.tmp 2]) := by kernel_rfl
theorem fn41 : FnOk Tryz.prog 41 20 lc41 [.tmp 2] := ⟨Tryz.call41, [16], _, Tryz.func41, low41⟩
/-- strings.SplitSeq -/
def lc45 : LCode :=
  (.seq (.region [⟨some 4, .mv (.const .nilFunc), none⟩]) (.seq (.region [⟨some 5, .mv (.tmp 0), none⟩, ⟨some 6, .mv (.tmp 1), none⟩, ⟨some 7, .call (.func 87) [(.tmp 5), (.tmp 6),
    (.const (.int .i64 0))], none⟩, ⟨some 4, .mv (.tmp 7), none⟩]) .ret))
theorem low45 : lowF Tryz.prog [] Tryz.f45 = some (8, lc45.strip, [.tmp 4]) := by kernel_rfl
theorem fn45 : FnOk Tryz.prog 45 8 lc45 [.tmp 4] := ⟨Tryz.call45, [], _, Tryz.func45, low45⟩
def ra46 : LCode :=
  (.region [⟨some 7, .mv (.tmp 12), none⟩])
def rb46 : LCode :=
  (.block 1 (.seq (.region [⟨some 14, .mv (.tmp 7), none⟩, ⟨some 15, .call (.func 88) [(.tmp 14)], none⟩, ⟨some 13, .mv (.tmp 15), none⟩, ⟨some 16, .ext (.tmp 13) 0, none⟩, ⟨some
    17, .ext (.tmp 13) 1, none⟩, ⟨some 8, .mv (.tmp 16), none⟩, ⟨some 9, .mv (.tmp 17), none⟩]) (.seq (.seq (.region [⟨some 18, .mv (.tmp 9), none⟩, ⟨some 19, .nilI true (.tmp 18)
    (.const .nilIface), none⟩, ⟨some 20, .mv (.tmp 19), none⟩, ⟨some 21, .mv (.tmp 8), some (20, false)⟩, ⟨some 22, .bin .lss (.tmp 21) (.const (.int .i64 0)), some (20, false)⟩,
    ⟨some 23, .pick (.tmp 20) (.const (.bool true)) (.tmp 22), none⟩, ⟨some 24, .mv (.tmp 23), none⟩, ⟨some 25, .mv (.tmp 8), some (24, false)⟩, ⟨some 26, .call (.func 84) [(.tmp
    25)], some (24, false)⟩, ⟨some 27, .mv (.tmp 7), some (24, false)⟩, ⟨some 28, .eqS true (.tmp 26) (.tmp 27), some (24, false)⟩, ⟨some 29, .pick (.tmp 24) (.const (.bool true))
    (.tmp 28), none⟩, ⟨some 30, .mv (.tmp 29), none⟩, ⟨some 31, .mv (.tmp 7), some (30, false)⟩, ⟨some 32, .lenS (.tmp 31), some (30, false)⟩, ⟨some 33, .bin .gtr (.tmp 32) (.const
    (.int .i64 3)), some (30, false)⟩, ⟨some 34, .pick (.tmp 30) (.const (.bool true)) (.tmp 33), none⟩]) (.cond (.tmp 34) (.seq (.region [⟨none, .store 1 (.tmp 4) (.const (.slice
    none 0 0)), none⟩, ⟨none, .store 1 (.tmp 5) (.const (.bool false)), none⟩]) .ret) .skip)) (.region [⟨some 35, .load false 1 (.tmp 6), none⟩, ⟨some 36, .mv (.tmp 8), none⟩, ⟨some
    37, .lit false 3 1 [(.tmp 36)], none⟩, ⟨some 38, .append true 3 1 8 (.tmp 35) (.tmp 37), none⟩, ⟨none, .store 1 (.tmp 6) (.tmp 38), none⟩]))))
/-- moonpool/sonar.naturals -/
def lc46 : LCode :=
  (.seq (.region [⟨some 4, .alloc [(.slice none 0 0)], none⟩, ⟨some 5, .alloc [(.bool false)], none⟩]) (.seq (.region [⟨some 6, .alloc [(.slice none 0 0)], none⟩]) (.seq (.seq
    (.region [⟨some 10, .mv (.tmp 0), none⟩, ⟨some 11, .call (.func 45) [(.tmp 10), (.const (.string ⟨#[32]⟩))], none⟩]) (.block 0 (.rangeFunc (.tmp 11) [12] ra46 rb46))) (.seq
    (.regionD [⟨some 39, .load false 1 (.tmp 6), none⟩, ⟨some 40, .load false 1 (.tmp 6), none⟩, ⟨some 41, .len (.tmp 40), none⟩, ⟨some 42, .mv (.tmp 1), none⟩, ⟨some 43, .bin .eql
    (.tmp 41) (.tmp 42), none⟩, ⟨none, .store 1 (.tmp 4) (.tmp 39), none⟩, ⟨none, .store 1 (.tmp 5) (.tmp 43), none⟩] [0, 0, 2, 0, 14, 1, 63] [0, 1, 2, 3, 4, 5, 6]) .ret))))
theorem low46 : lowF Tryz.prog [38] Tryz.f46 = some (44, lc46.strip, [.cell 4 false 1, .cell 5 false 1]) := by kernel_rfl
theorem fn46 : FnOk Tryz.prog 46 44 lc46 [.cell 4 false 1, .cell 5 false 1] := ⟨Tryz.call46, [38], _, Tryz.func46, low46⟩
/-- moonpool/sonar.devicesErr -/
def lc47 : LCode :=
  (.seq (.region [⟨some 2, .mv (.const (.int .i64 0)), none⟩]) (.seq (.region [⟨some 6, .mv (.tmp 0), none⟩, ⟨some 7, .call (.func 89) [(.tmp 6)], none⟩, ⟨some 5, .mv (.tmp 7),
    none⟩, ⟨some 8, .ext (.tmp 5) 0, none⟩, ⟨some 9, .ext (.tmp 5) 1, none⟩, ⟨some 3, .mv (.tmp 8), none⟩, ⟨some 4, .mv (.tmp 9), none⟩]) (.seq (.region [⟨some 10, .mv (.tmp 4),
    none⟩, ⟨some 2, .mv (.tmp 10), none⟩]) .ret)))
theorem low47 : lowF Tryz.prog [] Tryz.f47 = some (11, lc47.strip, [.tmp 2]) := by kernel_rfl
theorem fn47 : FnOk Tryz.prog 47 11 lc47 [.tmp 2] := ⟨Tryz.call47, [], _, Tryz.func47, low47⟩
/-- strings.Cut -/
def lc48 : LCode :=
  (.seq (.region [⟨some 4, .mv (.const (.string ⟨#[]⟩)), none⟩, ⟨some 5, .mv (.const (.string ⟨#[]⟩)), none⟩, ⟨some 6, .mv (.const (.bool false)), none⟩]) (.seq (.region [⟨some 7,
    .mv (.tmp 0), none⟩, ⟨some 8, .mv (.tmp 1), none⟩, ⟨some 9, .call (.func 90) [(.tmp 7), (.tmp 8)], none⟩, ⟨some 10, .ext (.tmp 9) 0, none⟩, ⟨some 11, .ext (.tmp 9) 1, none⟩,
    ⟨some 12, .ext (.tmp 9) 2, none⟩, ⟨some 4, .mv (.tmp 10), none⟩, ⟨some 5, .mv (.tmp 11), none⟩, ⟨some 6, .mv (.tmp 12), none⟩]) .ret))
theorem low48 : lowF Tryz.prog [] Tryz.f48 = some (13, lc48.strip, [.tmp 4, .tmp 5, .tmp 6]) := by kernel_rfl
theorem fn48 : FnOk Tryz.prog 48 13 lc48 [.tmp 4, .tmp 5, .tmp 6] := ⟨Tryz.call48, [], _, Tryz.func48, low48⟩
/-- moonpool/sonar.sceneErr -/
def lc49 : LCode :=
  (.seq (.region [⟨some 1, .boxS (.tmp 0), none⟩, ⟨some 2, .mv (.const (.int .i64 0)), none⟩]) (.seq (.region [⟨some 6, .load true 3 (.tmp 1), none⟩, ⟨some 7, .call (.func 91)
    [(.tmp 6)], none⟩, ⟨some 5, .mv (.tmp 7), none⟩, ⟨some 8, .ext (.tmp 5) 0, none⟩, ⟨some 9, .ext (.tmp 5) 1, none⟩, ⟨some 3, .mv (.tmp 8), none⟩, ⟨some 4, .mv (.tmp 9), none⟩])
    (.seq (.region [⟨some 10, .mv (.tmp 4), none⟩, ⟨some 2, .mv (.tmp 10), none⟩]) .ret)))
theorem low49 : lowF Tryz.prog [1] Tryz.f49 = some (11, lc49.strip, [.tmp 2]) := by kernel_rfl
theorem fn49 : FnOk Tryz.prog 49 11 lc49 [.tmp 2] := ⟨Tryz.call49, [1], _, Tryz.func49, low49⟩
/-- moonpool/moonpoolbase.Cut -/
def lc50 : LCode :=
  (.seq (.region [⟨some 4, .mv (.const (.slice none 0 0)), none⟩]) (.seq (.region [⟨some 5, .mv (.const (.slice none 0 0)), none⟩]) (.seq (.region [⟨some 6, .mv (.const (.int .i64
    0)), none⟩]) (.seq (.seq (.region [⟨some 7, .mv (.const (.int .i64 0)), none⟩]) (.block 0 (.loop (.seq (.seq (.region [⟨some 8, .mv (.tmp 7), none⟩, ⟨some 9, .mv (.tmp 0),
    none⟩, ⟨some 10, .lenS (.tmp 9), none⟩, ⟨some 11, .bin .lss (.tmp 8) (.tmp 10), none⟩]) (.cond (.tmp 11) .skip (.exit 0))) (.seq (.block 1 (.seq (.region [⟨some 14, .mv (.tmp
    0), none⟩, ⟨some 15, .mv (.tmp 7), none⟩, ⟨some 16, .indexS (.tmp 14) (.tmp 15), none⟩, ⟨some 17, .mv (.tmp 1), none⟩, ⟨some 18, .bin .eql (.tmp 16) (.tmp 17), none⟩]) (.cond
    (.tmp 18) (.seq (.region [⟨some 19, .mv (.tmp 5), none⟩, ⟨some 20, .mv (.tmp 0), none⟩, ⟨some 21, .mv (.tmp 6), none⟩, ⟨some 22, .mv (.tmp 7), none⟩, ⟨some 23, .slcS (.tmp 20)
    (some (.tmp 21)) (some (.tmp 22)), none⟩, ⟨some 24, .lit false 9 1 [(.tmp 23)], none⟩, ⟨some 25, .append true 9 1 16 (.tmp 19) (.tmp 24), none⟩, ⟨some 5, .mv (.tmp 25), none⟩])
    (.region [⟨some 26, .mv (.tmp 7), none⟩, ⟨some 27, .bin .add (.tmp 26) (.const (.int .i64 1)), none⟩, ⟨some 6, .mv (.tmp 27), none⟩])) .skip))) (.region [⟨some 12, .mv (.tmp 7),
    none⟩, ⟨some 13, .bin .add (.tmp 12) (.const (.int .i64 1)), none⟩, ⟨some 7, .mv (.tmp 13), none⟩])))))) (.seq (.region [⟨some 28, .mv (.tmp 5), none⟩, ⟨some 29, .mv (.tmp 0),
    none⟩, ⟨some 30, .mv (.tmp 6), none⟩, ⟨some 31, .slcS (.tmp 29) (some (.tmp 30)) none, none⟩, ⟨some 32, .lit false 9 1 [(.tmp 31)], none⟩, ⟨some 33, .append true 9 1 16 (.tmp
    28) (.tmp 32), none⟩, ⟨some 4, .mv (.tmp 33), none⟩]) .ret)))))
theorem low50 : lowF Tryz.prog [25, 33] Tryz.f50 = some (34, lc50.strip, [.tmp 4]) := by kernel_rfl
theorem fn50 : FnOk Tryz.prog 50 34 lc50 [.tmp 4] := ⟨Tryz.call50, [25, 33], _, Tryz.func50, low50⟩
/-- moonpool/moonpoolref04.numbers -/
def lc51 : LCode :=
  (.seq (.region [⟨some 4, .mv (.const (.slice none 0 0)), none⟩, ⟨some 5, .mv (.const (.bool false)), none⟩]) (.seq (.region [⟨some 11, .mv (.tmp 0), none⟩, ⟨some 12, .call (.func
    50) [(.tmp 11), (.const (.int .u8 32))], none⟩, ⟨some 6, .mv (.tmp 12), none⟩]) (.seq (.seq (.region [⟨some 13, .mv (.tmp 6), none⟩, ⟨some 14, .len (.tmp 13), none⟩, ⟨some 15,
    .mv (.tmp 1), none⟩, ⟨some 16, .bin .neq (.tmp 14) (.tmp 15), none⟩]) (.cond (.tmp 16) (.seq (.region [⟨some 4, .mv (.const (.slice none 0 0)), none⟩, ⟨some 5, .mv (.const
    (.bool false)), none⟩]) .ret) .skip)) (.seq (.region [⟨some 7, .mv (.const (.slice none 0 0)), none⟩]) (.seq (.seq (.region [⟨some 8, .mv (.const (.int .i64 0)), none⟩]) (.block
    0 (.loop (.seq (.seq (.region [⟨some 17, .mv (.tmp 8), none⟩, ⟨some 18, .mv (.tmp 6), none⟩, ⟨some 19, .len (.tmp 18), none⟩, ⟨some 20, .bin .lss (.tmp 17) (.tmp 19), none⟩])
    (.cond (.tmp 20) .skip (.exit 0))) (.seq (.block 1 (.seq (.region [⟨some 24, .mv (.tmp 6), none⟩, ⟨some 25, .mv (.tmp 8), none⟩, ⟨some 26, .idx 1 (.tmp 24) (.tmp 25), none⟩,
    ⟨some 27, .load false 1 (.tmp 26), none⟩, ⟨some 28, .call (.func 92) [(.tmp 27), (.const (.int .i64 3))], none⟩, ⟨some 23, .mv (.tmp 28), none⟩, ⟨some 29, .ext (.tmp 23) 0,
    none⟩, ⟨some 30, .ext (.tmp 23) 1, none⟩, ⟨some 9, .mv (.tmp 29), none⟩, ⟨some 10, .mv (.tmp 30), none⟩]) (.seq (.seq (.region [⟨some 31, .mv (.tmp 10), none⟩, ⟨some 32, .un
    .not (.tmp 31), none⟩, ⟨some 33, .mv (.tmp 32), none⟩, ⟨some 34, .mv (.tmp 9), some (33, false)⟩, ⟨some 35, .bin .lss (.tmp 34) (.const (.int .i64 0)), some (33, false)⟩, ⟨some
    36, .pick (.tmp 33) (.const (.bool true)) (.tmp 35), none⟩]) (.cond (.tmp 36) (.seq (.region [⟨some 4, .mv (.const (.slice none 0 0)), none⟩, ⟨some 5, .mv (.const (.bool
    false)), none⟩]) .ret) .skip)) (.region [⟨some 37, .mv (.tmp 7), none⟩, ⟨some 38, .mv (.tmp 9), none⟩, ⟨some 39, .lit false 3 1 [(.tmp 38)], none⟩, ⟨some 40, .append true 3 1 8
    (.tmp 37) (.tmp 39), none⟩, ⟨some 7, .mv (.tmp 40), none⟩])))) (.region [⟨some 21, .mv (.tmp 8), none⟩, ⟨some 22, .bin .add (.tmp 21) (.const (.int .i64 1)), none⟩, ⟨some 8, .mv
    (.tmp 22), none⟩])))))) (.seq (.region [⟨some 41, .mv (.tmp 7), none⟩, ⟨some 4, .mv (.tmp 41), none⟩, ⟨some 5, .mv (.const (.bool true)), none⟩]) .ret))))))
theorem low51 : lowF Tryz.prog [40] Tryz.f51 = some (42, lc51.strip, [.tmp 4, .tmp 5]) := by kernel_rfl
theorem fn51 : FnOk Tryz.prog 51 42 lc51 [.tmp 4, .tmp 5] := ⟨Tryz.call51, [40], _, Tryz.func51, low51⟩
/-- moonpool/moonpoolref04.text -/
def lc52 : LCode :=
  (.seq (.region [⟨some 2, .mv (.const (.string ⟨#[]⟩)), none⟩]) (.seq (.region [⟨some 3, .mv (.const (.string ⟨#[]⟩)), none⟩]) (.seq (.seq (.region [⟨some 4, .mv (.const (.int .i64
    0)), none⟩]) (.block 0 (.loop (.seq (.seq (.region [⟨some 5, .mv (.tmp 4), none⟩, ⟨some 6, .mv (.tmp 0), none⟩, ⟨some 7, .len (.tmp 6), none⟩, ⟨some 8, .bin .lss (.tmp 5) (.tmp
    7), none⟩]) (.cond (.tmp 8) .skip (.exit 0))) (.seq (.block 1 (.seq (.seq (.region [⟨some 11, .mv (.tmp 4), none⟩, ⟨some 12, .bin .gtr (.tmp 11) (.const (.int .i64 0)), none⟩])
    (.cond (.tmp 12) (.region [⟨some 13, .mv (.tmp 3), none⟩, ⟨some 14, .catS (.tmp 13) (.const (.string ⟨#[32]⟩)), none⟩, ⟨some 3, .mv (.tmp 14), none⟩]) .skip)) (.region [⟨some
    15, .mv (.tmp 3), none⟩, ⟨some 16, .mv (.tmp 0), none⟩, ⟨some 17, .mv (.tmp 4), none⟩, ⟨some 18, .idx 1 (.tmp 16) (.tmp 17), none⟩, ⟨some 19, .load false 1 (.tmp 18), none⟩,
    ⟨some 20, .call (.func 93) [(.tmp 19)], none⟩, ⟨some 21, .catS (.tmp 15) (.tmp 20), none⟩, ⟨some 3, .mv (.tmp 21), none⟩]))) (.region [⟨some 9, .mv (.tmp 4), none⟩, ⟨some 10,
    .bin .add (.tmp 9) (.const (.int .i64 1)), none⟩, ⟨some 4, .mv (.tmp 10), none⟩])))))) (.seq (.region [⟨some 22, .mv (.tmp 3), none⟩, ⟨some 2, .mv (.tmp 22), none⟩]) .ret))))
theorem low52 : lowF Tryz.prog [] Tryz.f52 = some (23, lc52.strip, [.tmp 2]) := by kernel_rfl
theorem fn52 : FnOk Tryz.prog 52 23 lc52 [.tmp 2] := ⟨Tryz.call52, [], _, Tryz.func52, low52⟩
/-- moonpool/moonpoolref04.CheckDevices -/
def lc53 : LCode :=
  (.seq (.region [⟨some 2, .mv (.const (.int .i64 0)), none⟩, ⟨some 3, .mv (.const (.int .i64 0)), none⟩]) (.seq (.seq (.region [⟨some 5, .mv (.tmp 0), none⟩, ⟨some 6, .len (.tmp
    5), none⟩, ⟨some 7, .bin .eql (.tmp 6) (.const (.int .i64 0)), none⟩]) (.cond (.tmp 7) (.seq (.region [⟨some 2, .mv (.const (.int .i64 0)), none⟩, ⟨some 3, .mv (.const (.int
    .i64 10)), none⟩]) .ret) .skip)) (.seq (.seq (.region [⟨some 8, .mv (.tmp 0), none⟩, ⟨some 9, .len (.tmp 8), none⟩, ⟨some 10, .bin .gtr (.tmp 9) (.const (.int .i64 5)), none⟩])
    (.cond (.tmp 10) (.seq (.region [⟨some 2, .mv (.const (.int .i64 0)), none⟩, ⟨some 3, .mv (.const (.int .i64 8)), none⟩]) .ret) .skip)) (.seq (.seq (.region [⟨some 4, .mv
    (.const (.int .i64 0)), none⟩]) (.block 0 (.loop (.seq (.seq (.region [⟨some 11, .mv (.tmp 4), none⟩, ⟨some 12, .mv (.tmp 0), none⟩, ⟨some 13, .len (.tmp 12), none⟩, ⟨some 14,
    .bin .lss (.tmp 11) (.tmp 13), none⟩]) (.cond (.tmp 14) .skip (.exit 0))) (.seq (.block 1 (.seq (.region [⟨some 17, .mv (.tmp 0), none⟩, ⟨some 18, .mv (.tmp 4), none⟩, ⟨some 19,
    .idx 3 (.tmp 17) (.tmp 18), none⟩, ⟨some 20, .fld 0 (.tmp 19), none⟩, ⟨some 21, .load false 1 (.tmp 20), none⟩, ⟨some 22, .call (.func 23) [(.tmp 21), (.const (.int .i64 0)),
    (.const (.int .i64 20))], none⟩, ⟨some 23, .un .not (.tmp 22), none⟩, ⟨some 24, .mv (.tmp 23), none⟩, ⟨some 25, .mv (.tmp 0), some (24, false)⟩, ⟨some 26, .mv (.tmp 4), some
    (24, false)⟩, ⟨some 27, .idx 3 (.tmp 25) (.tmp 26), some (24, false)⟩, ⟨some 28, .fld 1 (.tmp 27), some (24, false)⟩, ⟨some 29, .load false 1 (.tmp 28), some (24, false)⟩, ⟨some
    30, .call (.func 23) [(.tmp 29), (.const (.int .i64 1)), (.const (.int .i64 10))], some (24, false)⟩, ⟨some 31, .un .not (.tmp 30), some (24, false)⟩, ⟨some 32, .pick (.tmp 24)
    (.const (.bool true)) (.tmp 31), none⟩, ⟨some 33, .mv (.tmp 32), none⟩, ⟨some 34, .mv (.tmp 0), some (33, false)⟩, ⟨some 35, .mv (.tmp 4), some (33, false)⟩, ⟨some 36, .idx 3
    (.tmp 34) (.tmp 35), some (33, false)⟩, ⟨some 37, .fld 2 (.tmp 36), some (33, false)⟩, ⟨some 38, .load false 1 (.tmp 37), some (33, false)⟩, ⟨some 39, .call (.func 23) [(.tmp
    38), (.const (.int .i64 0)), (.const (.int .i64 10))], some (33, false)⟩, ⟨some 40, .un .not (.tmp 39), some (33, false)⟩, ⟨some 41, .pick (.tmp 33) (.const (.bool true)) (.tmp
    40), none⟩]) (.cond (.tmp 41) (.seq (.region [⟨some 42, .mv (.tmp 4), none⟩, ⟨some 2, .mv (.tmp 42), none⟩, ⟨some 3, .mv (.const (.int .i64 2)), none⟩]) .ret) .skip))) (.region
    [⟨some 15, .mv (.tmp 4), none⟩, ⟨some 16, .bin .add (.tmp 15) (.const (.int .i64 1)), none⟩, ⟨some 4, .mv (.tmp 16), none⟩])))))) (.seq (.region [⟨some 2, .mv (.const (.int .i64
    0)), none⟩, ⟨some 3, .mv (.const (.int .i64 0)), none⟩]) .ret)))))
theorem low53 : lowF Tryz.prog [] Tryz.f53 = some (43, lc53.strip, [.tmp 2, .tmp 3]) := by kernel_rfl
theorem fn53 : FnOk Tryz.prog 53 43 lc53 [.tmp 2, .tmp 3] := ⟨Tryz.call53, [], _, Tryz.func53, low53⟩
/-- moonpool/moonpoolref04.CheckScene -/
def lc54 : LCode :=
  (.seq (.region [⟨some 1, .boxS (.tmp 0), none⟩, ⟨some 2, .mv (.const (.int .i64 0)), none⟩, ⟨some 3, .mv (.const (.int .i64 0)), none⟩]) (.seq (.seq (.region [⟨some 7, .fld 0
    (.tmp 1), none⟩, ⟨some 8, .load false 1 (.tmp 7), none⟩, ⟨some 9, .fld 1 (.tmp 1), none⟩, ⟨some 10, .load false 1 (.tmp 9), none⟩, ⟨some 11, .call (.func 94) [(.tmp 8), (.tmp
    10)], none⟩, ⟨some 4, .mv (.tmp 11), none⟩]) (.seq (.region [⟨some 12, .mv (.tmp 4), none⟩, ⟨some 13, .bin .neq (.tmp 12) (.const (.int .i64 0)), none⟩]) (.cond (.tmp 13) (.seq
    (.region [⟨some 14, .mv (.tmp 4), none⟩, ⟨some 2, .mv (.const (.int .i64 0)), none⟩, ⟨some 3, .mv (.tmp 14), none⟩]) .ret) .skip))) (.seq (.seq (.region [⟨some 15, .fld 2 (.tmp
    1), none⟩, ⟨some 16, .load false 1 (.tmp 15), none⟩, ⟨some 17, .len (.tmp 16), none⟩, ⟨some 18, .bin .gtr (.tmp 17) (.const (.int .i64 10)), none⟩]) (.cond (.tmp 18) (.seq
    (.region [⟨some 2, .mv (.const (.int .i64 0)), none⟩, ⟨some 3, .mv (.const (.int .i64 8)), none⟩]) .ret) .skip)) (.seq (.seq (.region [⟨some 5, .mv (.const (.int .i64 0)),
    none⟩]) (.block 0 (.loop (.seq (.seq (.region [⟨some 19, .mv (.tmp 5), none⟩, ⟨some 20, .fld 2 (.tmp 1), none⟩, ⟨some 21, .load false 1 (.tmp 20), none⟩, ⟨some 22, .len (.tmp
    21), none⟩, ⟨some 23, .bin .lss (.tmp 19) (.tmp 22), none⟩]) (.cond (.tmp 23) .skip (.exit 0))) (.seq (.block 1 (.seq (.regionD [⟨some 26, .fld 2 (.tmp 1), none⟩, ⟨some 27,
    .load false 1 (.tmp 26), none⟩, ⟨some 28, .mv (.tmp 5), none⟩, ⟨some 29, .idx 5 (.tmp 27) (.tmp 28), none⟩, ⟨some 30, .load true 5 (.tmp 29), none⟩, ⟨some 31, .fld 0 (.tmp 1),
    none⟩, ⟨some 32, .load false 1 (.tmp 31), none⟩, ⟨some 33, .fld 1 (.tmp 1), none⟩, ⟨some 34, .load false 1 (.tmp 33), none⟩, ⟨some 35, .call (.func 27) [(.tmp 30), (.tmp 32),
    (.tmp 34)], none⟩, ⟨some 6, .mv (.tmp 35), none⟩] [0, 1, 0, 7, 15, 0, 32, 0, 128, 511, 1023] [0, 1, 2, 3, 4, 5, 6, 7, 8, 9, 10]) (.seq (.region [⟨some 36, .mv (.tmp 6), none⟩,
    ⟨some 37, .bin .neq (.tmp 36) (.const (.int .i64 0)), none⟩]) (.cond (.tmp 37) (.seq (.region [⟨some 38, .mv (.tmp 5), none⟩, ⟨some 39, .mv (.tmp 6), none⟩, ⟨some 2, .mv (.tmp
    38), none⟩, ⟨some 3, .mv (.tmp 39), none⟩]) .ret) .skip)))) (.region [⟨some 24, .mv (.tmp 5), none⟩, ⟨some 25, .bin .add (.tmp 24) (.const (.int .i64 1)), none⟩, ⟨some 5, .mv
    (.tmp 25), none⟩])))))) (.seq (.region [⟨some 2, .mv (.const (.int .i64 0)), none⟩, ⟨some 3, .mv (.const (.int .i64 0)), none⟩]) .ret)))))
theorem low54 : lowF Tryz.prog [1] Tryz.f54 = some (40, lc54.strip, [.tmp 2, .tmp 3]) := by kernel_rfl
theorem fn54 : FnOk Tryz.prog 54 40 lc54 [.tmp 2, .tmp 3] := ⟨Tryz.call54, [1], _, Tryz.func54, low54⟩
/-- moonpool/sonar.first -/
def lc55 : LCode :=
  (.seq (.region [⟨some 2, .mv (.const (.int .i64 0)), none⟩]) (.seq (.seq (.region [⟨some 5, .mv (.tmp 0), none⟩, ⟨some 6, .len (.tmp 5), none⟩, ⟨some 7, .mv (.const (.int .i64
    0)), none⟩]) (.block 0 (.loop (.seq (.region [⟨some 8, .bin .lss (.tmp 7) (.tmp 6), none⟩]) (.seq (.cond (.tmp 8) .skip (.exit 0)) (.seq (.block 1 (.seq (.region [⟨some 9, .idx
    1 (.tmp 5) (.tmp 7), none⟩, ⟨some 10, .load false 1 (.tmp 9), none⟩, ⟨some 4, .mv (.tmp 10), none⟩]) (.seq (.region [⟨some 11, .mv (.tmp 4), none⟩, ⟨some 12, .bin .neq (.tmp 11)
    (.const (.int .i64 0)), none⟩]) (.cond (.tmp 12) (.seq (.region [⟨some 13, .mv (.tmp 4), none⟩, ⟨some 2, .mv (.tmp 13), none⟩]) .ret) .skip)))) (.region [⟨some 14, .bin .add
    (.tmp 7) (.const (.int .i64 1)), none⟩, ⟨some 7, .mv (.tmp 14), none⟩]))))))) (.seq (.region [⟨some 2, .mv (.const (.int .i64 0)), none⟩]) .ret)))
theorem low55 : lowF Tryz.prog [] Tryz.f55 = some (15, lc55.strip, [.tmp 2]) := by kernel_rfl
theorem fn55 : FnOk Tryz.prog 55 15 lc55 [.tmp 2] := ⟨Tryz.call55, [], _, Tryz.func55, low55⟩
/-- moonpool/sonar.unless -/
def lc56 : LCode :=
  (.seq (.region [⟨some 4, .mv (.const (.int .i64 0)), none⟩]) (.seq (.seq (.region [⟨some 5, .mv (.tmp 0), none⟩]) (.cond (.tmp 5) (.seq (.region [⟨some 4, .mv (.const (.int .i64
    0)), none⟩]) .ret) .skip)) (.seq (.region [⟨some 6, .mv (.tmp 1), none⟩, ⟨some 4, .mv (.tmp 6), none⟩]) .ret)))
theorem low56 : lowF Tryz.prog [] Tryz.f56 = some (7, lc56.strip, [.tmp 4]) := by kernel_rfl
theorem fn56 : FnOk Tryz.prog 56 7 lc56 [.tmp 4] := ⟨Tryz.call56, [], _, Tryz.func56, low56⟩
/-- moonpool/moonpoolref04.isCell -/
def lc60 : LCode :=
  (.seq (.region [⟨some 3, .boxS (.tmp 0), none⟩, ⟨some 6, .mv (.const (.bool false)), none⟩]) (.seq (.region [⟨some 7, .fld 0 (.tmp 3), none⟩, ⟨some 8, .load false 1 (.tmp 7),
    none⟩, ⟨some 9, .mv (.tmp 1), none⟩, ⟨some 10, .bin .sub (.tmp 9) (.const (.int .i64 1)), none⟩, ⟨some 11, .call (.func 23) [(.tmp 8), (.const (.int .i64 0)), (.tmp 10)], none⟩,
    ⟨some 12, .mv (.tmp 11), none⟩, ⟨some 13, .fld 1 (.tmp 3), some (12, true)⟩, ⟨some 14, .load false 1 (.tmp 13), some (12, true)⟩, ⟨some 15, .mv (.tmp 2), some (12, true)⟩, ⟨some
    16, .bin .sub (.tmp 15) (.const (.int .i64 1)), some (12, true)⟩, ⟨some 17, .call (.func 23) [(.tmp 14), (.const (.int .i64 0)), (.tmp 16)], some (12, true)⟩, ⟨some 18, .pick
    (.tmp 12) (.tmp 17) (.const (.bool false)), none⟩, ⟨some 6, .mv (.tmp 18), none⟩]) .ret))
theorem low60 : lowF Tryz.prog [3] Tryz.f60 = some (19, lc60.strip, [.tmp 6]) := by kernel_rfl
theorem fn60 : FnOk Tryz.prog 60 19 lc60 [.tmp 6] := ⟨Tryz.call60, [3], _, Tryz.func60, low60⟩
end Go.Pw

set_option linter.unusedVariables false
set_option maxHeartbeats 2000000
set_option maxRecDepth 100000
namespace Go.Pw
open Go Go.Proofs
/-- moonpool/sonar.best -/
def lc62 : LCode :=
  (.seq (.region [⟨some 4, .mv (.const (.slice none 0 0)), none⟩, ⟨some 5, .mv (.const (.int .i64 0)), none⟩, ⟨some 6, .mv (.const (.bool false)), none⟩]) (.seq (.region [⟨some 7,
    .mv (.const (.slice none 0 0)), none⟩]) (.seq (.region [⟨some 8, .mv (.const (.int .i64 0)), none⟩, ⟨some 9, .mv (.const (.bool false)), none⟩]) (.seq (.seq (.region [⟨some 15,
    .mv (.tmp 0), none⟩, ⟨some 16, .bin .shl (.const (.int .u64 1)) (.tmp 15), none⟩, ⟨some 17, .mv (.const (.int .u64 0)), none⟩]) (.block 0 (.loop (.seq (.region [⟨some 18, .bin
    .lss (.tmp 17) (.tmp 16), none⟩]) (.seq (.cond (.tmp 18) .skip (.exit 0)) (.seq (.block 1 (.seq (.region [⟨some 19, .mv (.tmp 17), none⟩, ⟨some 10, .mv (.tmp 19), none⟩]) (.seq
    (.region [⟨some 11, .mv (.const (.slice none 0 0)), none⟩]) (.seq (.seq (.region [⟨some 20, .mv (.tmp 0), none⟩, ⟨some 21, .mv (.const (.int .i64 0)), none⟩]) (.block 2 (.loop
    (.seq (.region [⟨some 22, .bin .lss (.tmp 21) (.tmp 20), none⟩]) (.seq (.cond (.tmp 22) .skip (.exit 2)) (.seq (.block 3 (.seq (.region [⟨some 23, .mv (.tmp 21), none⟩, ⟨some
    12, .mv (.tmp 23), none⟩]) (.seq (.region [⟨some 24, .mv (.tmp 10), none⟩, ⟨some 25, .mv (.tmp 12), none⟩, ⟨some 26, .bin .shr (.tmp 24) (.tmp 25), none⟩, ⟨some 27, .bin .and
    (.tmp 26) (.const (.int .u64 1)), none⟩, ⟨some 28, .bin .eql (.tmp 27) (.const (.int .u64 1)), none⟩]) (.cond (.tmp 28) (.region [⟨some 29, .mv (.tmp 11), none⟩, ⟨some 30, .mv
    (.tmp 12), none⟩, ⟨some 31, .lit false 3 1 [(.tmp 30)], none⟩, ⟨some 32, .append true 3 1 8 (.tmp 29) (.tmp 31), none⟩, ⟨some 11, .mv (.tmp 32), none⟩]) .skip)))) (.region
    [⟨some 33, .bin .add (.tmp 21) (.const (.int .i64 1)), none⟩, ⟨some 21, .mv (.tmp 33), none⟩]))))))) (.seq (.region [⟨some 35, .mv (.tmp 1), none⟩, ⟨some 36, .mv (.tmp 11),
    none⟩, ⟨some 37, .call (.tmp 35) [(.tmp 36)], none⟩, ⟨some 34, .mv (.tmp 37), none⟩, ⟨some 38, .ext (.tmp 34) 0, none⟩, ⟨some 39, .ext (.tmp 34) 1, none⟩, ⟨some 13, .mv (.tmp
    38), none⟩, ⟨some 14, .mv (.tmp 39), none⟩]) (.seq (.region [⟨some 40, .mv (.tmp 14), none⟩, ⟨some 41, .mv (.tmp 40), none⟩, ⟨some 42, .mv (.tmp 9), some (41, true)⟩, ⟨some 43,
    .un .not (.tmp 42), some (41, true)⟩, ⟨some 44, .mv (.tmp 43), some (41, true)⟩, ⟨some 45, .mv (.tmp 13), some (44, false)⟩, ⟨some 46, .mv (.tmp 8), some (44, false)⟩, ⟨some 47,
    .call (.func 97) [(.tmp 45), (.tmp 46)], some (44, false)⟩, ⟨some 48, .mv (.tmp 11), some (44, false)⟩, ⟨some 49, .len (.tmp 48), some (44, false)⟩, ⟨some 50, .mv (.tmp 7), some
    (44, false)⟩, ⟨some 51, .len (.tmp 50), some (44, false)⟩, ⟨some 52, .call (.func 97) [(.tmp 49), (.tmp 51)], some (44, false)⟩, ⟨some 53, .mv (.tmp 11), some (44, false)⟩,
    ⟨some 54, .mv (.tmp 7), some (44, false)⟩, ⟨some 55, .call (.func 98) [(.tmp 53), (.tmp 54)], some (44, false)⟩, ⟨some 56, .lit false 3 1 [(.tmp 47), (.tmp 52), (.tmp 55)], some
    (44, false)⟩, ⟨some 57, .call (.func 96) [(.tmp 56)], some (44, false)⟩, ⟨some 58, .bin .lss (.tmp 57) (.const (.int .i64 0)), some (44, false)⟩, ⟨some 59, .pick (.tmp 44)
    (.const (.bool true)) (.tmp 58), some (41, true)⟩, ⟨some 60, .pick (.tmp 41) (.tmp 59) (.const (.bool false)), none⟩]) (.cond (.tmp 60) (.region [⟨some 61, .mv (.tmp 11), none⟩,
    ⟨some 62, .mv (.tmp 13), none⟩, ⟨some 7, .mv (.tmp 61), none⟩, ⟨some 8, .mv (.tmp 62), none⟩, ⟨some 9, .mv (.const (.bool true)), none⟩]) .skip))))))) (.region [⟨some 63, .bin
    .add (.tmp 17) (.const (.int .u64 1)), none⟩, ⟨some 17, .mv (.tmp 63), none⟩]))))))) (.seq (.region [⟨some 64, .mv (.tmp 7), none⟩, ⟨some 65, .mv (.tmp 8), none⟩, ⟨some 66, .mv
    (.tmp 9), none⟩, ⟨some 4, .mv (.tmp 64), none⟩, ⟨some 5, .mv (.tmp 65), none⟩, ⟨some 6, .mv (.tmp 66), none⟩]) .ret)))))
theorem low62 : lowF Tryz.prog [32] Tryz.f62 = some (67, lc62.strip, [.tmp 4, .tmp 5, .tmp 6]) := by kernel_rfl
theorem fn62 : FnOk Tryz.prog 62 67 lc62 [.tmp 4, .tmp 5, .tmp 6] := ⟨Tryz.call62, [32], _, Tryz.func62, low62⟩
/-- moonpool/sonar.OddRays$1 -/
def lc63 : LCode :=
  (.seq (.region [⟨some 3, .mv (.const (.int .i64 0)), none⟩, ⟨some 4, .mv (.const (.bool false)), none⟩]) (.seq (.region [⟨some 5, .mv (.tmp 0), none⟩, ⟨some 6, .len (.tmp 5),
    none⟩, ⟨some 7, .load true 3 (.tmp 1), none⟩, ⟨some 8, .mv (.tmp 0), none⟩, ⟨some 9, .call (.func 65) [(.tmp 7), (.tmp 8)], none⟩, ⟨some 10, .call (.func 64) [(.tmp 9), (.const
    (.int .i64 3))], none⟩, ⟨some 11, .un .not (.tmp 10), none⟩, ⟨some 3, .mv (.tmp 6), none⟩, ⟨some 4, .mv (.tmp 11), none⟩]) .ret))
theorem low63 : lowF Tryz.prog [] Tryz.f63 = some (12, lc63.strip, [.tmp 3, .tmp 4]) := by kernel_rfl
theorem fn63 : FnOk Tryz.prog 63 12 lc63 [.tmp 3, .tmp 4] := ⟨Tryz.call63, [], _, Tryz.func63, low63⟩
/-- slices.Contains[[]int,int] -/
def lc64 : LCode :=
  (.seq (.region [⟨some 4, .mv (.const (.bool false)), none⟩]) (.seq (.region [⟨some 5, .mv (.tmp 0), none⟩, ⟨some 6, .mv (.tmp 1), none⟩, ⟨some 7, .call (.func 99) [(.tmp 5), (.tmp
    6)], none⟩, ⟨some 8, .bin .geq (.tmp 7) (.const (.int .i64 0)), none⟩, ⟨some 4, .mv (.tmp 8), none⟩]) .ret))
theorem low64 : lowF Tryz.prog [] Tryz.f64 = some (9, lc64.strip, [.tmp 4]) := by kernel_rfl
theorem fn64 : FnOk Tryz.prog 64 9 lc64 [.tmp 4] := ⟨Tryz.call64, [], _, Tryz.func64, low64⟩
def ra65 : LCode :=
  (.region [⟨some 8, .alloc [(.int .i64 0), (.int .i64 0)], none⟩, ⟨none, .store 2 (.tmp 8) (.tmp 30), none⟩])
def rb65 : LCode :=
  (.block 3 (.regionD [⟨some 31, .load false 1 (.tmp 5), none⟩, ⟨some 32, .fld 0 (.tmp 8), none⟩, ⟨some 33, .load false 1 (.tmp 32), none⟩, ⟨some 34, .idx 1 (.tmp 31) (.tmp 33),
    none⟩, ⟨some 35, .load false 1 (.tmp 34), none⟩, ⟨some 36, .fld 1 (.tmp 8), none⟩, ⟨some 37, .load false 1 (.tmp 36), none⟩, ⟨some 38, .bin .or (.tmp 35) (.tmp 37), none⟩, ⟨some
    39, .idx 1 (.tmp 31) (.tmp 33), none⟩, ⟨none, .store 1 (.tmp 39) (.tmp 38), none⟩] [0, 0, 2, 7, 15, 0, 32, 127, 255, 511] [0, 1, 2, 3, 4, 5, 6, 7, 8, 9]))
/-- moonpool/sonar.states -/
def lc65 : LCode :=
  (.seq (.region [⟨some 2, .boxS (.tmp 0), none⟩, ⟨some 4, .mv (.const (.slice none 0 0)), none⟩]) (.seq (.region [⟨some 9, .fld 0 (.tmp 2), none⟩, ⟨some 10, .load false 1 (.tmp 9),
    none⟩, ⟨some 11, .fld 1 (.tmp 2), none⟩, ⟨some 12, .load false 1 (.tmp 11), none⟩, ⟨some 13, .bin .mul (.tmp 10) (.tmp 12), none⟩, ⟨some 14, .make true 3 1 8 [(.int .i64 0)]
    (.tmp 13), none⟩, ⟨some 5, .alloc [(.slice none 0 0)], none⟩, ⟨none, .store 1 (.tmp 5) (.tmp 14), none⟩]) (.seq (.seq (.region [⟨some 15, .fld 2 (.tmp 2), none⟩, ⟨some 16, .load
    false 1 (.tmp 15), none⟩, ⟨some 17, .len (.tmp 16), none⟩, ⟨some 18, .mv (.const (.int .i64 0)), none⟩]) (.block 0 (.loop (.seq (.region [⟨some 19, .bin .lss (.tmp 18) (.tmp
    17), none⟩]) (.seq (.cond (.tmp 19) .skip (.exit 0)) (.seq (.block 1 (.seq (.region [⟨some 20, .mv (.tmp 18), none⟩, ⟨some 21, .idx 5 (.tmp 16) (.tmp 18), none⟩, ⟨some 22, .load
    true 5 (.tmp 21), none⟩, ⟨some 7, .alloc [(.int .i64 0), (.int .i64 0), (.int .i64 0), (.int .i64 0), (.bool false)], none⟩, ⟨some 6, .mv (.tmp 20), none⟩, ⟨none, .store 5 (.tmp
    7) (.tmp 22), none⟩]) (.seq (.seq (.region [⟨some 23, .mv (.tmp 1), none⟩, ⟨some 24, .mv (.tmp 6), none⟩, ⟨some 25, .call (.func 64) [(.tmp 23), (.tmp 24)], none⟩]) (.cond (.tmp
    25) (.exit 1) .skip)) (.seq (.region [⟨some 26, .load true 5 (.tmp 7), none⟩, ⟨some 27, .fld 0 (.tmp 2), none⟩, ⟨some 28, .load false 1 (.tmp 27), none⟩, ⟨some 29, .call (.func
    100) [(.tmp 26), (.tmp 28)], none⟩]) (.block 2 (.rangeFunc (.tmp 29) [30] ra65 rb65)))))) (.region [⟨some 40, .bin .add (.tmp 18) (.const (.int .i64 1)), none⟩, ⟨some 18, .mv
    (.tmp 40), none⟩]))))))) (.seq (.region [⟨some 41, .load false 1 (.tmp 5), none⟩, ⟨some 4, .mv (.tmp 41), none⟩]) .ret))))
theorem low65 : lowF Tryz.prog [2, 14] Tryz.f65 = some (42, lc65.strip, [.tmp 4]) := by kernel_rfl
theorem fn65 : FnOk Tryz.prog 65 42 lc65 [.tmp 4] := ⟨Tryz.call65, [2, 14], _, Tryz.func65, low65⟩
/-- moonpool/sonar.BoundOf -/
def lc66 : LCode :=
  (.seq (.region [⟨some 1, .boxS (.tmp 0), none⟩, ⟨some 2, .mv (.const (.slice none 0 0)), none⟩, ⟨some 3, .mv (.const (.int .i64 0)), none⟩, ⟨some 4, .mv (.const (.int .i64 0)),
    none⟩]) (.seq (.seq (.region [⟨some 9, .load false 1 (.tmp 1), none⟩, ⟨some 10, .call (.func 47) [(.tmp 9)], none⟩, ⟨some 5, .mv (.tmp 10), none⟩]) (.seq (.region [⟨some 11, .mv
    (.tmp 5), none⟩, ⟨some 12, .bin .neq (.tmp 11) (.const (.int .i64 0)), none⟩]) (.cond (.tmp 12) (.seq (.region [⟨some 13, .mv (.tmp 5), none⟩, ⟨some 2, .mv (.const (.slice none
    0 0)), none⟩, ⟨some 3, .mv (.const (.int .i64 0)), none⟩, ⟨some 4, .mv (.tmp 13), none⟩]) .ret) .skip))) (.seq (.region [⟨some 15, .load false 1 (.tmp 1), none⟩, ⟨some 16, .len
    (.tmp 15), none⟩, ⟨some 17, .mkfn 101 [(.tmp 1)], none⟩, ⟨some 18, .call (.func 62) [(.tmp 16), (.tmp 17)], none⟩, ⟨some 14, .mv (.tmp 18), none⟩, ⟨some 19, .ext (.tmp 14) 0,
    none⟩, ⟨some 20, .ext (.tmp 14) 1, none⟩, ⟨some 21, .ext (.tmp 14) 2, none⟩, ⟨some 6, .mv (.tmp 19), none⟩, ⟨some 7, .mv (.tmp 20), none⟩, ⟨some 8, .mv (.tmp 21), none⟩]) (.seq
    (.region [⟨some 22, .mv (.tmp 6), none⟩, ⟨some 23, .mv (.tmp 7), none⟩, ⟨some 24, .un .neg (.tmp 23), none⟩, ⟨some 2, .mv (.tmp 22), none⟩, ⟨some 3, .mv (.tmp 24), none⟩, ⟨some
    4, .mv (.const (.int .i64 0)), none⟩]) .ret))))
theorem low66 : lowF Tryz.prog [1] Tryz.f66 = some (25, lc66.strip, [.tmp 2, .tmp 3, .tmp 4]) := by kernel_rfl
theorem fn66 : FnOk Tryz.prog 66 25 lc66 [.tmp 2, .tmp 3, .tmp 4] := ⟨Tryz.call66, [1], _, Tryz.func66, low66⟩
/-- moonpool/sonar.FirstTurns -/
def lc67 : LCode :=
  (.seq (.region [⟨some 4, .alloc [(.int .i64 0), (.slice none 0 0)], none⟩, ⟨some 5, .mv (.const (.int .i64 0)), none⟩]) (.seq (.seq (.region [⟨some 8, .mv (.tmp 0), none⟩, ⟨some
    9, .call (.func 47) [(.tmp 8)], none⟩, ⟨some 10, .mv (.tmp 1), none⟩, ⟨some 11, .call (.func 104) [(.tmp 10)], none⟩, ⟨some 12, .lit false 33 1 [(.tmp 9), (.tmp 11)], none⟩,
    ⟨some 13, .call (.func 55) [(.tmp 12)], none⟩, ⟨some 6, .mv (.tmp 13), none⟩]) (.seq (.region [⟨some 14, .mv (.tmp 6), none⟩, ⟨some 15, .bin .neq (.tmp 14) (.const (.int .i64
    0)), none⟩]) (.cond (.tmp 15) (.seq (.region [⟨some 16, .build [(.int .i64 0), (.slice none 0 0)] [], none⟩, ⟨some 17, .mv (.tmp 6), none⟩, ⟨none, .store 2 (.tmp 4) (.tmp 16),
    none⟩, ⟨some 5, .mv (.tmp 17), none⟩]) .ret) .skip))) (.seq (.region [⟨some 18, .mv (.tmp 0), none⟩, ⟨some 19, .mv (.tmp 1), none⟩, ⟨some 20, .call (.func 105) [(.tmp 18),
    (.const (.slice none 0 0)), (.tmp 19)], none⟩, ⟨some 7, .mv (.tmp 20), none⟩]) (.seq (.seq (.region [⟨some 21, .mv (.tmp 7), none⟩, ⟨some 22, .isnil false (.tmp 21), none⟩])
    (.cond (.tmp 22) (.seq (.region [⟨some 23, .build [(.int .i64 0), (.slice none 0 0)] [], none⟩, ⟨none, .store 2 (.tmp 4) (.tmp 23), none⟩, ⟨some 5, .mv (.const (.int .i64 12)),
    none⟩]) .ret) .skip)) (.seq (.region [⟨some 24, .mv (.tmp 1), none⟩, ⟨some 25, .mv (.tmp 7), none⟩, ⟨some 26, .build [(.int .i64 0), (.slice none 0 0)] [(0, 1, (.tmp 24)), (1,
    1, (.tmp 25))], none⟩, ⟨none, .store 2 (.tmp 4) (.tmp 26), none⟩, ⟨some 5, .mv (.const (.int .i64 0)), none⟩]) .ret)))))
theorem low67 : lowF Tryz.prog [] Tryz.f67 = some (27, lc67.strip, [.cell 4 true 2, .tmp 5]) := by kernel_rfl
theorem fn67 : FnOk Tryz.prog 67 27 lc67 [.cell 4 true 2, .tmp 5] := ⟨Tryz.call67, [], _, Tryz.func67, low67⟩
/-- moonpool/sonar.openSamples -/
def lc68 : LCode :=
  (.seq (.region [⟨some 4, .mv (.const (.int .i64 0)), none⟩]) (.seq (.region [⟨some 5, .mv (.tmp 0), none⟩, ⟨some 6, .call (.func 106) [(.tmp 5), (.const (.int .i64 8))], none⟩,
    ⟨some 7, .mv (.tmp 1), none⟩, ⟨some 8, .call (.func 106) [(.tmp 7), (.const (.int .i64 40))], none⟩, ⟨some 9, .lit false 33 1 [(.tmp 6), (.tmp 8)], none⟩, ⟨some 10, .call (.func
    55) [(.tmp 9)], none⟩, ⟨some 4, .mv (.tmp 10), none⟩]) .ret))
theorem low68 : lowF Tryz.prog [] Tryz.f68 = some (11, lc68.strip, [.tmp 4]) := by kernel_rfl
theorem fn68 : FnOk Tryz.prog 68 11 lc68 [.tmp 4] := ⟨Tryz.call68, [], _, Tryz.func68, low68⟩
/-- moonpool/sonar.within -/
def lc69 : LCode :=
  (.seq (.region [⟨some 6, .mv (.const (.bool false)), none⟩]) (.seq (.region [⟨some 7, .mv (.tmp 1), none⟩, ⟨some 8, .mv (.tmp 0), none⟩, ⟨some 9, .bin .leq (.tmp 7) (.tmp 8),
    none⟩, ⟨some 10, .mv (.tmp 9), none⟩, ⟨some 11, .mv (.tmp 0), some (10, true)⟩, ⟨some 12, .mv (.tmp 2), some (10, true)⟩, ⟨some 13, .bin .leq (.tmp 11) (.tmp 12), some (10,
    true)⟩, ⟨some 14, .pick (.tmp 10) (.tmp 13) (.const (.bool false)), none⟩, ⟨some 6, .mv (.tmp 14), none⟩]) .ret))
theorem low69 : lowF Tryz.prog [] Tryz.f69 = some (15, lc69.strip, [.tmp 6]) := by kernel_rfl
theorem fn69 : FnOk Tryz.prog 69 15 lc69 [.tmp 6] := ⟨Tryz.call69, [], _, Tryz.func69, low69⟩
/-- moonpool/sonar.match -/
def lc70 : LCode :=
  (.seq (.region [⟨some 4, .mv (.const (.complex .f64 0 0)), none⟩]) (.seq (.region [⟨some 5, .mv (.const (.complex .f64 0 0)), none⟩]) (.seq (.seq (.region [⟨some 8, .mv (.tmp 0),
    none⟩, ⟨some 9, .len (.tmp 8), none⟩, ⟨some 10, .mv (.const (.int .i64 0)), none⟩]) (.block 0 (.loop (.seq (.region [⟨some 11, .bin .lss (.tmp 10) (.tmp 9), none⟩]) (.seq (.cond
    (.tmp 11) .skip (.exit 0)) (.seq (.block 1 (.seq (.region [⟨some 12, .mv (.tmp 10), none⟩, ⟨some 13, .idx 2 (.tmp 8) (.tmp 10), none⟩, ⟨some 14, .load true 2 (.tmp 13), none⟩,
    ⟨some 7, .alloc [(.int .i64 0), (.int .i64 0)], none⟩, ⟨some 6, .mv (.tmp 12), none⟩, ⟨none, .store 2 (.tmp 7) (.tmp 14), none⟩]) (.regionD [⟨some 15, .mv (.tmp 5), none⟩, ⟨some
    16, .fld 0 (.tmp 7), none⟩, ⟨some 17, .load false 1 (.tmp 16), none⟩, ⟨some 18, .toF (.tmp 17), none⟩, ⟨some 19, .fld 1 (.tmp 7), none⟩, ⟨some 20, .load false 1 (.tmp 19),
    none⟩, ⟨some 21, .toF (.tmp 20), none⟩, ⟨some 22, .un .neg (.tmp 21), none⟩, ⟨some 23, .cplx (.tmp 18) (.tmp 22), none⟩, ⟨some 24, .mv (.tmp 1), none⟩, ⟨some 25, .mv (.tmp 6),
    none⟩, ⟨some 26, .idx 2 (.tmp 24) (.tmp 25), none⟩, ⟨some 27, .fld 0 (.tmp 26), none⟩, ⟨some 28, .load false 1 (.tmp 27), none⟩, ⟨some 29, .toF (.tmp 28), none⟩, ⟨some 30, .mv
    (.tmp 1), none⟩, ⟨some 31, .mv (.tmp 6), none⟩, ⟨some 32, .idx 2 (.tmp 30) (.tmp 31), none⟩, ⟨some 33, .fld 1 (.tmp 32), none⟩, ⟨some 34, .load false 1 (.tmp 33), none⟩, ⟨some
    35, .toF (.tmp 34), none⟩, ⟨some 36, .cplx (.tmp 29) (.tmp 35), none⟩, ⟨some 37, .cbin .mul (.tmp 23) (.tmp 36), none⟩, ⟨some 38, .cbin .add (.tmp 15) (.tmp 37), none⟩, ⟨some 5,
    .mv (.tmp 38), none⟩] [0, 0, 2, 6, 0, 16, 48, 112, 254, 0, 0, 1536, 3584, 7680, 15872, 0, 0, 98304, 229376, 491520, 1015808, 2096640, 4194302, 8388607, 16777215] [0, 1, 2, 3, 4,
    5, 6, 7, 8, 9, 10, 11, 12, 13, 14, 15, 16, 17, 18, 19, 20, 21, 22, 23, 24]))) (.region [⟨some 39, .bin .add (.tmp 10) (.const (.int .i64 1)), none⟩, ⟨some 10, .mv (.tmp 39),
    none⟩]))))))) (.seq (.region [⟨some 40, .mv (.tmp 5), none⟩, ⟨some 4, .mv (.tmp 40), none⟩]) .ret))))
theorem low70 : lowF Tryz.prog [] Tryz.f70 = some (41, lc70.strip, [.tmp 4]) := by kernel_rfl
theorem fn70 : FnOk Tryz.prog 70 41 lc70 [.tmp 4] := ⟨Tryz.call70, [], _, Tryz.func70, low70⟩
/-- slices.ContainsFunc[[]int,int] -/
def lc71 : LCode :=
  (.seq (.region [⟨some 4, .mv (.const (.bool false)), none⟩]) (.seq (.region [⟨some 5, .mv (.tmp 0), none⟩, ⟨some 6, .mv (.tmp 1), none⟩, ⟨some 7, .call (.func 107) [(.tmp 5),
    (.tmp 6)], none⟩, ⟨some 8, .bin .geq (.tmp 7) (.const (.int .i64 0)), none⟩, ⟨some 4, .mv (.tmp 8), none⟩]) .ret))
theorem low71 : lowF Tryz.prog [] Tryz.f71 = some (9, lc71.strip, [.tmp 4]) := by kernel_rfl
theorem fn71 : FnOk Tryz.prog 71 9 lc71 [.tmp 4] := ⟨Tryz.call71, [], _, Tryz.func71, low71⟩
/-- moonpool/sonar.EchoesIn$1 -/
def lc72 : LCode :=
  (.seq (.region [⟨some 3, .mv (.const (.bool false)), none⟩]) (.seq (.region [⟨some 4, .mv (.tmp 0), none⟩, ⟨some 5, .load false 1 (.tmp 1), none⟩, ⟨some 6, .bin .geq (.tmp 4)
    (.tmp 5), none⟩, ⟨some 3, .mv (.tmp 6), none⟩]) .ret))
theorem low72 : lowF Tryz.prog [] Tryz.f72 = some (7, lc72.strip, [.tmp 3]) := by kernel_rfl
theorem fn72 : FnOk Tryz.prog 72 7 lc72 [.tmp 3] := ⟨Tryz.call72, [], _, Tryz.func72, low72⟩
/-- slices.Max[[]int,int] -/
def lc73 : LCode :=
  (.seq (.region [⟨some 2, .mv (.const (.int .i64 0)), none⟩]) (.seq (.seq (.region [⟨some 5, .mv (.tmp 0), none⟩, ⟨some 6, .len (.tmp 5), none⟩, ⟨some 7, .bin .lss (.tmp 6) (.const
    (.int .i64 1)), none⟩]) (.cond (.tmp 7) (.region [⟨some 8, .bad, none⟩, ⟨none, .bad, none⟩]) .skip)) (.seq (.region [⟨some 9, .mv (.tmp 0), none⟩, ⟨some 10, .idx 1 (.tmp 9)
    (.const (.int .i64 0)), none⟩, ⟨some 11, .load false 1 (.tmp 10), none⟩, ⟨some 3, .mv (.tmp 11), none⟩]) (.seq (.seq (.region [⟨some 4, .mv (.const (.int .i64 1)), none⟩])
    (.block 0 (.loop (.seq (.seq (.region [⟨some 12, .mv (.tmp 4), none⟩, ⟨some 13, .mv (.tmp 0), none⟩, ⟨some 14, .len (.tmp 13), none⟩, ⟨some 15, .bin .lss (.tmp 12) (.tmp 14),
    none⟩]) (.cond (.tmp 15) .skip (.exit 0))) (.seq (.block 1 (.region [⟨some 18, .mv (.tmp 3), none⟩, ⟨some 19, .mv (.tmp 0), none⟩, ⟨some 20, .mv (.tmp 4), none⟩, ⟨some 21, .idx
    1 (.tmp 19) (.tmp 20), none⟩, ⟨some 22, .load false 1 (.tmp 21), none⟩, ⟨some 23, .mm true [(.tmp 18), (.tmp 22)], none⟩, ⟨some 3, .mv (.tmp 23), none⟩])) (.region [⟨some 16,
    .mv (.tmp 4), none⟩, ⟨some 17, .bin .add (.tmp 16) (.const (.int .i64 1)), none⟩, ⟨some 4, .mv (.tmp 17), none⟩])))))) (.seq (.region [⟨some 24, .mv (.tmp 3), none⟩, ⟨some 2,
    .mv (.tmp 24), none⟩]) .ret)))))
theorem low73 : lowF Tryz.prog [] Tryz.f73 = some (25, lc73.strip, [.tmp 2]) := by kernel_rfl
theorem fn73 : FnOk Tryz.prog 73 25 lc73 [.tmp 2] := ⟨Tryz.call73, [], _, Tryz.func73, low73⟩
/-- moonpool/sonar.layersErr -/
def lc74 : LCode :=
  (.seq (.region [⟨some 6, .mv (.const (.int .i64 0)), none⟩]) (.seq (.region [⟨some 10, .mv (.tmp 0), none⟩, ⟨some 11, .call (.func 108) [(.tmp 10)], none⟩, ⟨some 9, .mv (.tmp 11),
    none⟩, ⟨some 12, .ext (.tmp 9) 0, none⟩, ⟨some 13, .ext (.tmp 9) 1, none⟩, ⟨some 7, .mv (.tmp 12), none⟩, ⟨some 8, .mv (.tmp 13), none⟩]) (.seq (.region [⟨some 14, .mv (.tmp 8),
    none⟩, ⟨some 15, .mv (.tmp 1), none⟩, ⟨some 16, .mv (.tmp 2), none⟩, ⟨some 17, .call (.func 69) [(.tmp 15), (.const (.int .i64 0)), (.tmp 16)], none⟩, ⟨some 18, .call (.func 56)
    [(.tmp 17), (.const (.int .i64 2))], none⟩, ⟨some 19, .lit false 33 1 [(.tmp 14), (.tmp 18)], none⟩, ⟨some 20, .call (.func 55) [(.tmp 19)], none⟩, ⟨some 6, .mv (.tmp 20),
    none⟩]) .ret)))
theorem low74 : lowF Tryz.prog [] Tryz.f74 = some (21, lc74.strip, [.tmp 6]) := by kernel_rfl
theorem fn74 : FnOk Tryz.prog 74 21 lc74 [.tmp 6] := ⟨Tryz.call74, [], _, Tryz.func74, low74⟩
/-- moonpool/sonar.deep -/
def lc75 : LCode :=
  (.seq (.region [⟨some 6, .alloc [(.int .i64 0), (.int .i64 0)], none⟩]) (.seq (.region [⟨some 7, .alloc [(.int .i64 0), (.int .i64 0)], none⟩]) (.seq (.region [⟨some 13, .fld 1
    (.tmp 7), none⟩, ⟨none, .store 1 (.tmp 13) (.const (.int .i64 1)), none⟩]) (.seq (.region [⟨some 8, .mv (.const (.int .i64 0)), none⟩]) (.seq (.seq (.region [⟨some 14, .mv (.tmp
    0), none⟩, ⟨some 15, .len (.tmp 14), none⟩, ⟨some 16, .mv (.const (.int .i64 0)), none⟩]) (.block 0 (.loop (.seq (.region [⟨some 17, .bin .lss (.tmp 16) (.tmp 15), none⟩]) (.seq
    (.cond (.tmp 17) .skip (.exit 0)) (.seq (.block 1 (.seq (.region [⟨some 18, .mv (.tmp 16), none⟩, ⟨some 19, .idx 3 (.tmp 14) (.tmp 16), none⟩, ⟨some 20, .load true 3 (.tmp 19),
    none⟩, ⟨some 10, .alloc [(.int .i64 0), (.int .i64 0), (.int .i64 0)], none⟩, ⟨some 9, .mv (.tmp 18), none⟩, ⟨none, .store 3 (.tmp 10) (.tmp 20), none⟩]) (.seq (.regionD [⟨some
    21, .load true 2 (.tmp 7), none⟩, ⟨some 22, .fld 0 (.tmp 10), none⟩, ⟨some 23, .load false 1 (.tmp 22), none⟩, ⟨some 24, .mv (.tmp 2), none⟩, ⟨some 25, .load true 3 (.tmp 10),
    none⟩, ⟨some 26, .call (.tmp 24) [(.tmp 25)], none⟩, ⟨some 27, .build [(.int .i64 0), (.int .i64 0)] [(0, 1, (.tmp 23)), (1, 1, (.tmp 26))], none⟩, ⟨some 28, .call (.func 109)
    [(.tmp 21), (.tmp 27)], none⟩, ⟨some 11, .alloc [(.int .i64 0), (.int .i64 0)], none⟩, ⟨none, .store 2 (.tmp 11) (.tmp 28), none⟩] [0, 0, 2, 0, 0, 24, 62, 127, 0, 511] [0, 1, 2,
    3, 4, 5, 6, 7, 8, 9]) (.seq (.seq (.region [⟨some 29, .mv (.tmp 9), none⟩, ⟨some 30, .mv (.tmp 0), none⟩, ⟨some 31, .len (.tmp 30), none⟩, ⟨some 32, .bin .sub (.tmp 31) (.const
    (.int .i64 1)), none⟩, ⟨some 33, .bin .eql (.tmp 29) (.tmp 32), none⟩, ⟨some 34, .mv (.tmp 33), none⟩, ⟨some 35, .fld 0 (.tmp 11), some (34, false)⟩, ⟨some 36, .load false 1
    (.tmp 35), some (34, false)⟩, ⟨some 37, .mv (.tmp 1), some (34, false)⟩, ⟨some 38, .fld 1 (.tmp 11), some (34, false)⟩, ⟨some 39, .load false 1 (.tmp 38), some (34, false)⟩,
    ⟨some 40, .bin .mul (.tmp 37) (.tmp 39), some (34, false)⟩, ⟨some 41, .bin .gtr (.tmp 36) (.tmp 40), some (34, false)⟩, ⟨some 42, .pick (.tmp 34) (.const (.bool true)) (.tmp
    41), none⟩]) (.cond (.tmp 42) (.seq (.region [⟨some 43, .mv (.tmp 1), none⟩, ⟨some 44, .fld 1 (.tmp 7), none⟩, ⟨some 45, .load false 1 (.tmp 44), none⟩, ⟨some 46, .bin .mul
    (.tmp 43) (.tmp 45), none⟩, ⟨some 47, .fld 0 (.tmp 7), none⟩, ⟨some 48, .load false 1 (.tmp 47), none⟩, ⟨some 49, .bin .sub (.tmp 46) (.tmp 48), none⟩, ⟨some 50, .fld 1 (.tmp
    7), none⟩, ⟨some 51, .load false 1 (.tmp 50), none⟩, ⟨some 52, .build [(.int .i64 0), (.int .i64 0)] [(0, 1, (.tmp 49)), (1, 1, (.tmp 51))], none⟩, ⟨some 12, .alloc [(.int .i64
    0), (.int .i64 0)], none⟩, ⟨none, .store 2 (.tmp 12) (.tmp 52), none⟩]) (.seq (.regionD [⟨some 53, .mv (.tmp 8), none⟩, ⟨some 54, .fld 1 (.tmp 12), none⟩, ⟨some 55, .load false
    1 (.tmp 54), none⟩, ⟨some 56, .bin .mul (.tmp 53) (.tmp 55), none⟩, ⟨some 57, .fld 0 (.tmp 12), none⟩, ⟨some 58, .load false 1 (.tmp 57), none⟩, ⟨some 59, .mv (.tmp 2), none⟩,
    ⟨some 60, .load true 3 (.tmp 10), none⟩, ⟨some 61, .call (.tmp 59) [(.tmp 60)], none⟩, ⟨some 62, .bin .mul (.tmp 58) (.tmp 61), none⟩, ⟨some 63, .bin .add (.tmp 56) (.tmp 62),
    none⟩, ⟨some 64, .fld 1 (.tmp 12), none⟩, ⟨some 65, .load false 1 (.tmp 64), none⟩, ⟨some 66, .build [(.int .i64 0), (.int .i64 0)] [(0, 1, (.tmp 63)), (1, 1, (.tmp 65))],
    none⟩, ⟨none, .store 2 (.tmp 6) (.tmp 66), none⟩] [0, 0, 2, 7, 0, 16, 0, 0, 192, 496, 1023, 0, 2048, 8191, 16383] [0, 1, 2, 3, 4, 5, 6, 7, 8, 9, 10, 11, 12, 13, 14]) .ret))
    .skip)) (.regionD [⟨some 67, .load true 2 (.tmp 11), none⟩, ⟨some 68, .mv (.tmp 8), none⟩, ⟨some 69, .fld 0 (.tmp 10), none⟩, ⟨some 70, .load false 1 (.tmp 69), none⟩, ⟨some 71,
    .bin .add (.tmp 68) (.tmp 70), none⟩, ⟨none, .store 2 (.tmp 7) (.tmp 67), none⟩, ⟨some 8, .mv (.tmp 71), none⟩] [0, 0, 0, 4, 14, 1, 63] [0, 1, 2, 3, 4, 5, 6]))))) (.region
    [⟨some 72, .bin .add (.tmp 16) (.const (.int .i64 1)), none⟩, ⟨some 16, .mv (.tmp 72), none⟩]))))))) (.seq (.region [⟨some 73, .load true 2 (.tmp 7), none⟩, ⟨none, .store 2
    (.tmp 6) (.tmp 73), none⟩]) .ret))))))
theorem low75 : lowF Tryz.prog [] Tryz.f75 = some (74, lc75.strip, [.cell 6 true 2]) := by kernel_rfl
theorem fn75 : FnOk Tryz.prog 75 74 lc75 [.cell 6 true 2] := ⟨Tryz.call75, [], _, Tryz.func75, low75⟩
/-- moonpool/sonar.low -/
def lc76 : LCode :=
  (.seq (.region [⟨some 1, .boxS (.tmp 0), none⟩, ⟨some 2, .mv (.const (.int .i64 0)), none⟩]) (.seq (.region [⟨some 3, .fld 1 (.tmp 1), none⟩, ⟨some 4, .fld 0 (.tmp 3), none⟩,
    ⟨some 5, .load false 1 (.tmp 4), none⟩, ⟨some 2, .mv (.tmp 5), none⟩]) .ret))
theorem low76 : lowF Tryz.prog [1] Tryz.f76 = some (6, lc76.strip, [.tmp 2]) := by kernel_rfl
theorem fn76 : FnOk Tryz.prog 76 6 lc76 [.tmp 2] := ⟨Tryz.call76, [1], _, Tryz.func76, low76⟩
/-- (moonpool/sonar.quotient).floor -/
def lc77 : LCode :=
  (.seq (.region [⟨some 1, .boxS (.tmp 0), none⟩, ⟨some 2, .mv (.const (.int .i64 0)), none⟩]) (.seq (.region [⟨some 3, .fld 0 (.tmp 1), none⟩, ⟨some 4, .load false 1 (.tmp 3),
    none⟩, ⟨some 5, .fld 1 (.tmp 1), none⟩, ⟨some 6, .load false 1 (.tmp 5), none⟩, ⟨some 7, .bin .quo (.tmp 4) (.tmp 6), none⟩, ⟨some 2, .mv (.tmp 7), none⟩]) .ret))
theorem low77 : lowF Tryz.prog [1] Tryz.f77 = some (8, lc77.strip, [.tmp 2]) := by kernel_rfl
theorem fn77 : FnOk Tryz.prog 77 8 lc77 [.tmp 2] := ⟨Tryz.call77, [1], _, Tryz.func77, low77⟩
/-- moonpool/sonar.high -/
def lc78 : LCode :=
  (.seq (.region [⟨some 1, .boxS (.tmp 0), none⟩, ⟨some 2, .mv (.const (.int .i64 0)), none⟩]) (.seq (.region [⟨some 3, .fld 1 (.tmp 1), none⟩, ⟨some 4, .fld 1 (.tmp 3), none⟩,
    ⟨some 5, .load false 1 (.tmp 4), none⟩, ⟨some 2, .mv (.tmp 5), none⟩]) .ret))
theorem low78 : lowF Tryz.prog [1] Tryz.f78 = some (6, lc78.strip, [.tmp 2]) := by kernel_rfl
theorem fn78 : FnOk Tryz.prog 78 6 lc78 [.tmp 2] := ⟨Tryz.call78, [1], _, Tryz.func78, low78⟩
/-- (moonpool/sonar.quotient).ceil -/
def lc79 : LCode :=
  (.seq (.region [⟨some 1, .boxS (.tmp 0), none⟩, ⟨some 2, .mv (.const (.int .i64 0)), none⟩]) (.seq (.region [⟨some 3, .fld 0 (.tmp 1), none⟩, ⟨some 4, .load false 1 (.tmp 3),
    none⟩, ⟨some 5, .fld 1 (.tmp 1), none⟩, ⟨some 6, .load false 1 (.tmp 5), none⟩, ⟨some 7, .bin .add (.tmp 4) (.tmp 6), none⟩, ⟨some 8, .bin .sub (.tmp 7) (.const (.int .i64 1)),
    none⟩, ⟨some 9, .fld 1 (.tmp 1), none⟩, ⟨some 10, .load false 1 (.tmp 9), none⟩, ⟨some 11, .bin .quo (.tmp 8) (.tmp 10), none⟩, ⟨some 2, .mv (.tmp 11), none⟩]) .ret))
theorem low79 : lowF Tryz.prog [1] Tryz.f79 = some (12, lc79.strip, [.tmp 2]) := by kernel_rfl
theorem fn79 : FnOk Tryz.prog 79 12 lc79 [.tmp 2] := ⟨Tryz.call79, [1], _, Tryz.func79, low79⟩
/-- moonpool/moonpoollaw04.Ray -/
def lc80 : LCode :=
  (.seq (.region [⟨some 10, .alloc [(.int .i64 0), (.int .i64 0), (.int .i64 0), (.int .i64 0), (.bool false)], none⟩]) (.seq (.region [⟨some 11, .mv (.tmp 0), none⟩, ⟨some 12, .mv
    (.tmp 1), none⟩, ⟨some 13, .build [(.int .i64 0), (.int .i64 0)] [(0, 1, (.tmp 11)), (1, 1, (.tmp 12))], none⟩, ⟨some 14, .mv (.tmp 2), none⟩, ⟨some 15, .mv (.tmp 3), none⟩,
    ⟨some 16, .build [(.int .i64 0), (.int .i64 0)] [(0, 1, (.tmp 14)), (1, 1, (.tmp 15))], none⟩, ⟨some 17, .mv (.tmp 4), none⟩, ⟨some 18, .build [(.int .i64 0), (.int .i64 0),
    (.int .i64 0), (.int .i64 0), (.bool false)] [(0, 2, (.tmp 13)), (2, 2, (.tmp 16)), (4, 1, (.tmp 17))], none⟩, ⟨none, .store 5 (.tmp 10) (.tmp 18), none⟩]) .ret))
theorem low80 : lowF Tryz.prog [] Tryz.f80 = some (19, lc80.strip, [.cell 10 true 5]) := by kernel_rfl
theorem fn80 : FnOk Tryz.prog 80 19 lc80 [.cell 10 true 5] := ⟨Tryz.call80, [], _, Tryz.func80, low80⟩
/-- moonpool/sonar.CheckSearch -/
def lc81 : LCode :=
  (.seq (.region [⟨some 1, .box (.tmp 0), none⟩, ⟨some 2, .mv (.const (.int .i64 0)), none⟩, ⟨some 3, .mv (.const (.int .i64 0)), none⟩]) (.seq (.seq (.region [⟨some 8, .fld 0 (.tmp
    1), none⟩, ⟨some 9, .load false 1 (.tmp 8), none⟩, ⟨some 10, .fld 1 (.tmp 1), none⟩, ⟨some 11, .load false 1 (.tmp 10), none⟩, ⟨some 12, .fld 2 (.tmp 1), none⟩, ⟨some 13, .load
    false 1 (.tmp 12), none⟩, ⟨some 14, .len (.tmp 13), none⟩, ⟨some 15, .call (.func 110) [(.tmp 9), (.tmp 11), (.tmp 14)], none⟩, ⟨some 4, .mv (.tmp 15), none⟩]) (.seq (.region
    [⟨some 16, .mv (.tmp 4), none⟩, ⟨some 17, .bin .neq (.tmp 16) (.const (.int .i64 0)), none⟩]) (.cond (.tmp 17) (.seq (.region [⟨some 18, .mv (.tmp 4), none⟩, ⟨some 2, .mv
    (.const (.int .i64 0)), none⟩, ⟨some 3, .mv (.tmp 18), none⟩]) .ret) .skip))) (.seq (.seq (.region [⟨some 20, .fld 2 (.tmp 1), none⟩, ⟨some 21, .load false 1 (.tmp 20), none⟩,
    ⟨some 22, .mkfn 112 [(.tmp 1)], none⟩, ⟨some 23, .call (.func 111) [(.tmp 21), (.tmp 22)], none⟩, ⟨some 19, .mv (.tmp 23), none⟩, ⟨some 24, .ext (.tmp 19) 0, none⟩, ⟨some 25,
    .ext (.tmp 19) 1, none⟩, ⟨some 5, .mv (.tmp 24), none⟩, ⟨some 6, .mv (.tmp 25), none⟩]) (.seq (.region [⟨some 26, .mv (.tmp 6), none⟩, ⟨some 27, .bin .neq (.tmp 26) (.const
    (.int .i64 0)), none⟩]) (.cond (.tmp 27) (.seq (.region [⟨some 28, .mv (.tmp 5), none⟩, ⟨some 29, .mv (.tmp 6), none⟩, ⟨some 2, .mv (.tmp 28), none⟩, ⟨some 3, .mv (.tmp 29),
    none⟩]) .ret) .skip))) (.seq (.region [⟨some 7, .alloc [(.int .i64 0)], none⟩, ⟨none, .store 1 (.tmp 7) (.const (.int .i64 (-1))), none⟩]) (.seq (.region [⟨some 30, .fld 3 (.tmp
    1), none⟩, ⟨some 31, .load false 1 (.tmp 30), none⟩, ⟨some 32, .mkfn 115 [(.tmp 1), (.tmp 7)], none⟩, ⟨some 33, .call (.func 114) [(.tmp 31), (.tmp 32)], none⟩, ⟨some 34, .ext
    (.tmp 33) 0, none⟩, ⟨some 35, .ext (.tmp 33) 1, none⟩, ⟨some 2, .mv (.tmp 34), none⟩, ⟨some 3, .mv (.tmp 35), none⟩]) .ret)))))
theorem low81 : lowF Tryz.prog [] Tryz.f81 = some (36, lc81.strip, [.tmp 2, .tmp 3]) := by kernel_rfl
theorem fn81 : FnOk Tryz.prog 81 36 lc81 [.tmp 2, .tmp 3] := ⟨Tryz.call81, [], _, Tryz.func81, low81⟩
/-- moonpool/sonar.seen -/
def lc82 : LCode :=
  (.seq (.region [⟨some 1, .boxS (.tmp 0), none⟩, ⟨some 2, .mv (.const (.slice none 0 0)), none⟩]) (.seq (.region [⟨some 3, .mv (.const (.slice none 0 0)), none⟩]) (.seq (.seq
    (.region [⟨some 11, .fld 2 (.tmp 1), none⟩, ⟨some 12, .load false 1 (.tmp 11), none⟩, ⟨some 13, .len (.tmp 12), none⟩, ⟨some 14, .mv (.const (.int .i64 0)), none⟩]) (.block 0
    (.loop (.seq (.region [⟨some 15, .bin .lss (.tmp 14) (.tmp 13), none⟩]) (.seq (.cond (.tmp 15) .skip (.exit 0)) (.seq (.block 1 (.seq (.region [⟨some 16, .idx 6 (.tmp 12) (.tmp
    14), none⟩, ⟨some 17, .load true 6 (.tmp 16), none⟩, ⟨some 5, .alloc [(.int .i64 0), (.int .i64 0), (.int .i64 0), (.int .i64 0), (.bool false), (.int .i64 0)], none⟩, ⟨none,
    .store 6 (.tmp 5) (.tmp 17), none⟩]) (.seq (.region [⟨some 6, .mv (.const (.slice none 0 0)), none⟩]) (.seq (.seq (.region [⟨some 18, .fld 0 (.tmp 5), none⟩, ⟨some 19, .load
    true 5 (.tmp 18), none⟩, ⟨some 20, .call (.func 116) [(.tmp 19)], none⟩, ⟨some 21, .len (.tmp 20), none⟩, ⟨some 22, .mv (.const (.int .i64 0)), none⟩]) (.block 2 (.loop (.seq
    (.region [⟨some 23, .bin .lss (.tmp 22) (.tmp 21), none⟩]) (.seq (.cond (.tmp 23) .skip (.exit 2)) (.seq (.block 3 (.seq (.region [⟨some 24, .idx 2 (.tmp 20) (.tmp 22), none⟩,
    ⟨some 25, .load true 2 (.tmp 24), none⟩, ⟨some 8, .alloc [(.int .i64 0), (.int .i64 0)], none⟩, ⟨none, .store 2 (.tmp 8) (.tmp 25), none⟩]) (.seq (.regionD [⟨some 27, .fld 3
    (.tmp 1), none⟩, ⟨some 28, .load false 1 (.tmp 27), none⟩, ⟨some 29, .load true 2 (.tmp 8), none⟩, ⟨some 30, .fld 0 (.tmp 1), none⟩, ⟨some 31, .load false 1 (.tmp 30), none⟩,
    ⟨some 32, .call (.func 118) [(.tmp 29), (.tmp 31)], none⟩, ⟨some 33, .call (.func 117) [(.tmp 28), (.tmp 32)], none⟩, ⟨some 26, .mv (.tmp 33), none⟩, ⟨some 34, .ext (.tmp 26) 0,
    none⟩, ⟨some 35, .ext (.tmp 26) 1, none⟩, ⟨some 9, .mv (.tmp 34), none⟩, ⟨some 10, .mv (.tmp 35), none⟩] [0, 1, 0, 0, 8, 28, 63, 127, 255, 255, 511, 2047] [0, 1, 2, 3, 4, 5, 6,
    7, 8, 9, 10, 11]) (.seq (.region [⟨some 36, .mv (.tmp 10), none⟩]) (.cond (.tmp 36) (.region [⟨some 37, .mv (.tmp 6), none⟩, ⟨some 38, .mv (.tmp 9), none⟩, ⟨some 39, .lit false
    3 1 [(.tmp 38)], none⟩, ⟨some 40, .append true 3 1 8 (.tmp 37) (.tmp 39), none⟩, ⟨some 6, .mv (.tmp 40), none⟩]) .skip))))) (.region [⟨some 41, .bin .add (.tmp 22) (.const (.int
    .i64 1)), none⟩, ⟨some 22, .mv (.tmp 41), none⟩]))))))) (.region [⟨some 42, .mv (.tmp 3), none⟩, ⟨some 43, .mv (.tmp 6), none⟩, ⟨some 44, .lit false 60 1 [(.tmp 43)], none⟩,
    ⟨some 45, .append true 60 1 24 (.tmp 42) (.tmp 44), none⟩, ⟨some 3, .mv (.tmp 45), none⟩]))))) (.region [⟨some 46, .bin .add (.tmp 14) (.const (.int .i64 1)), none⟩, ⟨some 14,
    .mv (.tmp 46), none⟩]))))))) (.seq (.region [⟨some 47, .mv (.tmp 3), none⟩, ⟨some 2, .mv (.tmp 47), none⟩]) .ret))))
theorem low82 : lowF Tryz.prog [1, 40, 45] Tryz.f82 = some (48, lc82.strip, [.tmp 2]) := by kernel_rfl
theorem fn82 : FnOk Tryz.prog 82 48 lc82 [.tmp 2] := ⟨Tryz.call82, [1, 40, 45], _, Tryz.func82, low82⟩
/-- moonpool/sonar.CoverOf$1 -/
def lc83 : LCode :=
  (.seq (.region [⟨some 4, .mv (.const (.int .i64 0)), none⟩, ⟨some 5, .mv (.const (.bool false)), none⟩]) (.seq (.region [⟨some 6, .mv (.const (.int .i64 0)), none⟩]) (.seq
    (.region [⟨some 12, .mkmap 0, none⟩, ⟨some 7, .mv (.tmp 12), none⟩]) (.seq (.seq (.region [⟨some 13, .mv (.tmp 0), none⟩, ⟨some 14, .len (.tmp 13), none⟩, ⟨some 15, .mv (.const
    (.int .i64 0)), none⟩]) (.block 0 (.loop (.seq (.region [⟨some 16, .bin .lss (.tmp 15) (.tmp 14), none⟩]) (.seq (.cond (.tmp 16) .skip (.exit 0)) (.seq (.block 1 (.seq (.region
    [⟨some 17, .idx 1 (.tmp 13) (.tmp 15), none⟩, ⟨some 18, .load false 1 (.tmp 17), none⟩, ⟨some 9, .mv (.tmp 18), none⟩]) (.seq (.region [⟨some 19, .mv (.tmp 6), none⟩, ⟨some 20,
    .fld 2 (.tmp 1), none⟩, ⟨some 21, .load false 1 (.tmp 20), none⟩, ⟨some 22, .mv (.tmp 9), none⟩, ⟨some 23, .idx 6 (.tmp 21) (.tmp 22), none⟩, ⟨some 24, .fld 5 (.tmp 23), none⟩,
    ⟨some 25, .load false 1 (.tmp 24), none⟩, ⟨some 26, .bin .add (.tmp 19) (.tmp 25), none⟩, ⟨some 6, .mv (.tmp 26), none⟩]) (.seq (.region [⟨some 27, .load false 1 (.tmp 2),
    none⟩, ⟨some 28, .mv (.tmp 9), none⟩, ⟨some 29, .idx 1 (.tmp 27) (.tmp 28), none⟩, ⟨some 30, .load false 1 (.tmp 29), none⟩, ⟨some 31, .len (.tmp 30), none⟩, ⟨some 32, .mv
    (.const (.int .i64 0)), none⟩]) (.block 2 (.loop (.seq (.region [⟨some 33, .bin .lss (.tmp 32) (.tmp 31), none⟩]) (.seq (.cond (.tmp 33) .skip (.exit 2)) (.seq (.block 3 (.seq
    (.region [⟨some 34, .idx 1 (.tmp 30) (.tmp 32), none⟩, ⟨some 35, .load false 1 (.tmp 34), none⟩, ⟨some 11, .mv (.tmp 35), none⟩]) (.region [⟨some 36, .mv (.tmp 7), none⟩, ⟨some
    37, .mv (.tmp 11), none⟩, ⟨some 38, .build [] [], none⟩, ⟨none, .mset 0 (.tmp 36) (.tmp 37) (.tmp 38), none⟩]))) (.region [⟨some 39, .bin .add (.tmp 32) (.const (.int .i64 1)),
    none⟩, ⟨some 32, .mv (.tmp 39), none⟩])))))))))) (.region [⟨some 40, .bin .add (.tmp 15) (.const (.int .i64 1)), none⟩, ⟨some 15, .mv (.tmp 40), none⟩]))))))) (.seq (.regionD
    [⟨some 41, .mv (.tmp 6), none⟩, ⟨some 42, .mv (.tmp 7), none⟩, ⟨some 43, .lenM (.tmp 42), none⟩, ⟨some 44, .fld 3 (.tmp 1), none⟩, ⟨some 45, .load false 1 (.tmp 44), none⟩,
    ⟨some 46, .len (.tmp 45), none⟩, ⟨some 47, .bin .eql (.tmp 43) (.tmp 46), none⟩, ⟨some 4, .mv (.tmp 41), none⟩, ⟨some 5, .mv (.tmp 47), none⟩] [0, 0, 2, 0, 8, 24, 62, 7, 255]
    [0, 1, 2, 3, 4, 5, 6, 7, 8]) .ret)))))
theorem low83 : lowF Tryz.prog [] Tryz.f83 = some (48, lc83.strip, [.tmp 4, .tmp 5]) := by kernel_rfl
theorem fn83 : FnOk Tryz.prog 83 48 lc83 [.tmp 4, .tmp 5] := ⟨Tryz.call83, [], _, Tryz.func83, low83⟩
/-- moonpool/sonar.CheckDevices -/
def lc89 : LCode :=
  (.seq (.region [⟨some 2, .mv (.const (.int .i64 0)), none⟩, ⟨some 3, .mv (.const (.int .i64 0)), none⟩]) (.seq (.seq (.region [⟨some 5, .mv (.tmp 0), none⟩, ⟨some 6, .len (.tmp
    5), none⟩, ⟨some 7, .call (.func 127) [(.tmp 6), (.const (.int .i64 5))], none⟩, ⟨some 4, .mv (.tmp 7), none⟩]) (.seq (.region [⟨some 8, .mv (.tmp 4), none⟩, ⟨some 9, .bin .neq
    (.tmp 8) (.const (.int .i64 0)), none⟩]) (.cond (.tmp 9) (.seq (.region [⟨some 10, .mv (.tmp 4), none⟩, ⟨some 2, .mv (.const (.int .i64 0)), none⟩, ⟨some 3, .mv (.tmp 10),
    none⟩]) .ret) .skip))) (.seq (.region [⟨some 11, .mv (.tmp 0), none⟩, ⟨some 12, .call (.func 128) [(.tmp 11), (.func 129)], none⟩, ⟨some 13, .ext (.tmp 12) 0, none⟩, ⟨some 14,
    .ext (.tmp 12) 1, none⟩, ⟨some 2, .mv (.tmp 13), none⟩, ⟨some 3, .mv (.tmp 14), none⟩]) .ret)))
theorem low89 : lowF Tryz.prog [] Tryz.f89 = some (15, lc89.strip, [.tmp 2, .tmp 3]) := by kernel_rfl
theorem fn89 : FnOk Tryz.prog 89 15 lc89 [.tmp 2, .tmp 3] := ⟨Tryz.call89, [], _, Tryz.func89, low89⟩
/-- internal/stringslite.Cut -/
def lc90 : LCode :=
  (.seq (.region [⟨some 4, .mv (.const (.string ⟨#[]⟩)), none⟩, ⟨some 5, .mv (.const (.string ⟨#[]⟩)), none⟩, ⟨some 6, .mv (.const (.bool false)), none⟩]) (.seq (.seq (.region
    [⟨some 8, .mv (.tmp 0), none⟩, ⟨some 9, .mv (.tmp 1), none⟩, ⟨some 10, .call (.func 130) [(.tmp 8), (.tmp 9)], none⟩, ⟨some 7, .mv (.tmp 10), none⟩]) (.seq (.region [⟨some 11,
    .mv (.tmp 7), none⟩, ⟨some 12, .bin .geq (.tmp 11) (.const (.int .i64 0)), none⟩]) (.cond (.tmp 12) (.seq (.regionD [⟨some 13, .mv (.tmp 0), none⟩, ⟨some 14, .mv (.tmp 7),
    none⟩, ⟨some 15, .slcS (.tmp 13) none (some (.tmp 14)), none⟩, ⟨some 16, .mv (.tmp 0), none⟩, ⟨some 17, .mv (.tmp 7), none⟩, ⟨some 18, .mv (.tmp 1), none⟩, ⟨some 19, .lenS (.tmp
    18), none⟩, ⟨some 20, .bin .add (.tmp 17) (.tmp 19), none⟩, ⟨some 21, .slcS (.tmp 16) (some (.tmp 20)) none, none⟩, ⟨some 4, .mv (.tmp 15), none⟩, ⟨some 5, .mv (.tmp 21), none⟩,
    ⟨some 6, .mv (.const (.bool true)), none⟩] [0, 0, 3, 0, 0, 0, 32, 112, 248, 7, 1023, 2047] [0, 1, 2, 3, 4, 5, 6, 7, 8, 9, 10, 11]) .ret) .skip))) (.seq (.region [⟨some 22, .mv
    (.tmp 0), none⟩, ⟨some 4, .mv (.tmp 22), none⟩, ⟨some 5, .mv (.const (.string ⟨#[]⟩)), none⟩, ⟨some 6, .mv (.const (.bool false)), none⟩]) .ret)))
theorem low90 : lowF Tryz.prog [] Tryz.f90 = some (23, lc90.strip, [.tmp 4, .tmp 5, .tmp 6]) := by kernel_rfl
theorem fn90 : FnOk Tryz.prog 90 23 lc90 [.tmp 4, .tmp 5, .tmp 6] := ⟨Tryz.call90, [], _, Tryz.func90, low90⟩
/-- moonpool/sonar.CheckScene -/
def lc91 : LCode :=
  (.seq (.region [⟨some 1, .boxS (.tmp 0), none⟩, ⟨some 2, .mv (.const (.int .i64 0)), none⟩, ⟨some 3, .mv (.const (.int .i64 0)), none⟩]) (.seq (.seq (.region [⟨some 5, .fld 0
    (.tmp 1), none⟩, ⟨some 6, .load false 1 (.tmp 5), none⟩, ⟨some 7, .fld 1 (.tmp 1), none⟩, ⟨some 8, .load false 1 (.tmp 7), none⟩, ⟨some 9, .fld 2 (.tmp 1), none⟩, ⟨some 10,
    .load false 1 (.tmp 9), none⟩, ⟨some 11, .len (.tmp 10), none⟩, ⟨some 12, .call (.func 110) [(.tmp 6), (.tmp 8), (.tmp 11)], none⟩, ⟨some 4, .mv (.tmp 12), none⟩]) (.seq
    (.region [⟨some 13, .mv (.tmp 4), none⟩, ⟨some 14, .bin .neq (.tmp 13) (.const (.int .i64 0)), none⟩]) (.cond (.tmp 14) (.seq (.region [⟨some 15, .mv (.tmp 4), none⟩, ⟨some 2,
    .mv (.const (.int .i64 0)), none⟩, ⟨some 3, .mv (.tmp 15), none⟩]) .ret) .skip))) (.seq (.region [⟨some 16, .fld 2 (.tmp 1), none⟩, ⟨some 17, .load false 1 (.tmp 16), none⟩,
    ⟨some 18, .mkfn 132 [(.tmp 1)], none⟩, ⟨some 19, .call (.func 131) [(.tmp 17), (.tmp 18)], none⟩, ⟨some 20, .ext (.tmp 19) 0, none⟩, ⟨some 21, .ext (.tmp 19) 1, none⟩, ⟨some 2,
    .mv (.tmp 20), none⟩, ⟨some 3, .mv (.tmp 21), none⟩]) .ret)))
theorem low91 : lowF Tryz.prog [1] Tryz.f91 = some (22, lc91.strip, [.tmp 2, .tmp 3]) := by kernel_rfl
theorem fn91 : FnOk Tryz.prog 91 22 lc91 [.tmp 2, .tmp 3] := ⟨Tryz.call91, [1], _, Tryz.func91, low91⟩
/-- moonpool/moonpoolbase.Number -/
def lc92 : LCode :=
  (.seq (.region [⟨some 4, .mv (.const (.int .i64 0)), none⟩, ⟨some 5, .mv (.const (.bool false)), none⟩]) (.seq (.region [⟨some 6, .mv (.const (.int .i64 0)), none⟩]) (.seq (.seq
    (.region [⟨some 9, .mv (.tmp 0), none⟩, ⟨some 10, .lenS (.tmp 9), none⟩, ⟨some 11, .bin .gtr (.tmp 10) (.const (.int .i64 0)), none⟩, ⟨some 12, .mv (.tmp 11), none⟩, ⟨some 13,
    .mv (.tmp 0), some (12, true)⟩, ⟨some 14, .indexS (.tmp 13) (.const (.int .i64 0)), some (12, true)⟩, ⟨some 15, .bin .eql (.tmp 14) (.const (.int .u8 45)), some (12, true)⟩,
    ⟨some 16, .pick (.tmp 12) (.tmp 15) (.const (.bool false)), none⟩]) (.cond (.tmp 16) (.region [⟨some 6, .mv (.const (.int .i64 1)), none⟩]) .skip)) (.seq (.seq (.region [⟨some
    17, .mv (.tmp 0), none⟩, ⟨some 18, .lenS (.tmp 17), none⟩, ⟨some 19, .mv (.tmp 6), none⟩, ⟨some 20, .bin .eql (.tmp 18) (.tmp 19), none⟩, ⟨some 21, .mv (.tmp 20), none⟩, ⟨some
    22, .mv (.tmp 0), some (21, false)⟩, ⟨some 23, .lenS (.tmp 22), some (21, false)⟩, ⟨some 24, .mv (.tmp 6), some (21, false)⟩, ⟨some 25, .bin .sub (.tmp 23) (.tmp 24), some (21,
    false)⟩, ⟨some 26, .mv (.tmp 1), some (21, false)⟩, ⟨some 27, .bin .gtr (.tmp 25) (.tmp 26), some (21, false)⟩, ⟨some 28, .pick (.tmp 21) (.const (.bool true)) (.tmp 27), none⟩,
    ⟨some 29, .mv (.tmp 28), none⟩, ⟨some 30, .mv (.tmp 0), some (29, false)⟩, ⟨some 31, .mv (.tmp 6), some (29, false)⟩, ⟨some 32, .indexS (.tmp 30) (.tmp 31), some (29, false)⟩,
    ⟨some 33, .bin .eql (.tmp 32) (.const (.int .u8 48)), some (29, false)⟩, ⟨some 34, .mv (.tmp 33), some (29, false)⟩, ⟨some 35, .mv (.tmp 0), some (34, true)⟩, ⟨some 36, .lenS
    (.tmp 35), some (34, true)⟩, ⟨some 37, .bin .gtr (.tmp 36) (.const (.int .i64 1)), some (34, true)⟩, ⟨some 38, .pick (.tmp 34) (.tmp 37) (.const (.bool false)), some (29,
    false)⟩, ⟨some 39, .pick (.tmp 29) (.const (.bool true)) (.tmp 38), none⟩]) (.cond (.tmp 39) (.seq (.region [⟨some 4, .mv (.const (.int .i64 0)), none⟩, ⟨some 5, .mv (.const
    (.bool false)), none⟩]) .ret) .skip)) (.seq (.region [⟨some 7, .mv (.const (.int .i64 0)), none⟩]) (.seq (.seq (.region [⟨some 40, .mv (.tmp 6), none⟩, ⟨some 8, .mv (.tmp 40),
    none⟩]) (.block 0 (.loop (.seq (.seq (.region [⟨some 41, .mv (.tmp 8), none⟩, ⟨some 42, .mv (.tmp 0), none⟩, ⟨some 43, .lenS (.tmp 42), none⟩, ⟨some 44, .bin .lss (.tmp 41)
    (.tmp 43), none⟩]) (.cond (.tmp 44) .skip (.exit 0))) (.seq (.block 1 (.seq (.seq (.region [⟨some 47, .mv (.tmp 0), none⟩, ⟨some 48, .mv (.tmp 8), none⟩, ⟨some 49, .indexS (.tmp
    47) (.tmp 48), none⟩, ⟨some 50, .bin .lss (.tmp 49) (.const (.int .u8 48)), none⟩, ⟨some 51, .mv (.tmp 50), none⟩, ⟨some 52, .mv (.tmp 0), some (51, false)⟩, ⟨some 53, .mv (.tmp
    8), some (51, false)⟩, ⟨some 54, .indexS (.tmp 52) (.tmp 53), some (51, false)⟩, ⟨some 55, .bin .gtr (.tmp 54) (.const (.int .u8 57)), some (51, false)⟩, ⟨some 56, .pick (.tmp
    51) (.const (.bool true)) (.tmp 55), none⟩]) (.cond (.tmp 56) (.seq (.region [⟨some 4, .mv (.const (.int .i64 0)), none⟩, ⟨some 5, .mv (.const (.bool false)), none⟩]) .ret)
    .skip)) (.region [⟨some 57, .mv (.tmp 7), none⟩, ⟨some 58, .bin .mul (.const (.int .i64 10)) (.tmp 57), none⟩, ⟨some 59, .mv (.tmp 0), none⟩, ⟨some 60, .mv (.tmp 8), none⟩,
    ⟨some 61, .indexS (.tmp 59) (.tmp 60), none⟩, ⟨some 62, .bin .sub (.tmp 61) (.const (.int .u8 48)), none⟩, ⟨some 63, .conv .i64 (.tmp 62), none⟩, ⟨some 64, .bin .add (.tmp 58)
    (.tmp 63), none⟩, ⟨some 7, .mv (.tmp 64), none⟩]))) (.region [⟨some 45, .mv (.tmp 8), none⟩, ⟨some 46, .bin .add (.tmp 45) (.const (.int .i64 1)), none⟩, ⟨some 8, .mv (.tmp 46),
    none⟩])))))) (.seq (.seq (.region [⟨some 65, .mv (.tmp 6), none⟩, ⟨some 66, .bin .eql (.tmp 65) (.const (.int .i64 1)), none⟩]) (.cond (.tmp 66) (.region [⟨some 67, .mv (.tmp
    7), none⟩, ⟨some 68, .un .neg (.tmp 67), none⟩, ⟨some 7, .mv (.tmp 68), none⟩]) .skip)) (.seq (.region [⟨some 69, .mv (.tmp 7), none⟩, ⟨some 4, .mv (.tmp 69), none⟩, ⟨some 5,
    .mv (.const (.bool true)), none⟩]) .ret))))))))
theorem low92 : lowF Tryz.prog [] Tryz.f92 = some (70, lc92.strip, [.tmp 4, .tmp 5]) := by kernel_rfl
theorem fn92 : FnOk Tryz.prog 92 70 lc92 [.tmp 4, .tmp 5] := ⟨Tryz.call92, [], _, Tryz.func92, low92⟩
/-- moonpool/moonpoolbase.Decimal -/
def lc93 : LCode :=
  (.seq (.region [⟨some 2, .mv (.const (.string ⟨#[]⟩)), none⟩]) (.seq (.seq (.region [⟨some 6, .mv (.tmp 0), none⟩, ⟨some 7, .bin .eql (.tmp 6) (.const (.int .i64 0)), none⟩])
    (.cond (.tmp 7) (.seq (.region [⟨some 2, .mv (.const (.string ⟨#[48]⟩)), none⟩]) .ret) .skip)) (.seq (.region [⟨some 3, .mv (.const (.string ⟨#[]⟩)), none⟩, ⟨some 4, .mv (.const
    (.string ⟨#[]⟩)), none⟩]) (.seq (.seq (.region [⟨some 8, .mv (.tmp 0), none⟩, ⟨some 9, .bin .lss (.tmp 8) (.const (.int .i64 0)), none⟩]) (.cond (.tmp 9) (.region [⟨some 4, .mv
    (.const (.string ⟨#[45]⟩)), none⟩]) .skip)) (.seq (.block 0 (.loop (.seq (.seq (.region [⟨some 10, .mv (.tmp 0), none⟩, ⟨some 11, .bin .neq (.tmp 10) (.const (.int .i64 0)),
    none⟩]) (.cond (.tmp 11) .skip (.exit 0))) (.block 1 (.seq (.region [⟨some 12, .mv (.tmp 0), none⟩, ⟨some 13, .bin .rem (.tmp 12) (.const (.int .i64 10)), none⟩, ⟨some 5, .mv
    (.tmp 13), none⟩]) (.seq (.region [⟨some 14, .mv (.tmp 5), none⟩, ⟨some 15, .call (.func 133) [(.tmp 14)], none⟩, ⟨some 16, .bin .add (.const (.int .i64 48)) (.tmp 15), none⟩,
    ⟨some 17, .conv .u8 (.tmp 16), none⟩, ⟨some 18, .lit false 5 1 [(.tmp 17)], none⟩, ⟨some 19, .strB (.tmp 18), none⟩, ⟨some 20, .mv (.tmp 3), none⟩, ⟨some 21, .catS (.tmp 19)
    (.tmp 20), none⟩, ⟨some 3, .mv (.tmp 21), none⟩]) (.region [⟨some 22, .mv (.tmp 0), none⟩, ⟨some 23, .bin .quo (.tmp 22) (.const (.int .i64 10)), none⟩, ⟨some 0, .mv (.tmp 23),
    none⟩]))))))) (.seq (.region [⟨some 24, .mv (.tmp 4), none⟩, ⟨some 25, .mv (.tmp 3), none⟩, ⟨some 26, .catS (.tmp 24) (.tmp 25), none⟩, ⟨some 2, .mv (.tmp 26), none⟩])
    .ret))))))
theorem low93 : lowF Tryz.prog [] Tryz.f93 = some (27, lc93.strip, [.tmp 2]) := by kernel_rfl
theorem fn93 : FnOk Tryz.prog 93 27 lc93 [.tmp 2] := ⟨Tryz.call93, [], _, Tryz.func93, low93⟩
/-- moonpool/moonpoolref04.gridErr -/
def lc94 : LCode :=
  (.seq (.region [⟨some 4, .mv (.const (.int .i64 0)), none⟩]) (.seq (.seq (.region [⟨some 5, .mv (.tmp 0), none⟩, ⟨some 6, .call (.func 23) [(.tmp 5), (.const (.int .i64 1)),
    (.const (.int .i64 12))], none⟩, ⟨some 7, .un .not (.tmp 6), none⟩, ⟨some 8, .mv (.tmp 7), none⟩, ⟨some 9, .mv (.tmp 1), some (8, false)⟩, ⟨some 10, .call (.func 23) [(.tmp 9),
    (.const (.int .i64 1)), (.const (.int .i64 12))], some (8, false)⟩, ⟨some 11, .un .not (.tmp 10), some (8, false)⟩, ⟨some 12, .pick (.tmp 8) (.const (.bool true)) (.tmp 11),
    none⟩]) (.cond (.tmp 12) (.seq (.region [⟨some 4, .mv (.const (.int .i64 2)), none⟩]) .ret) .skip)) (.seq (.region [⟨some 4, .mv (.const (.int .i64 0)), none⟩]) .ret)))
theorem low94 : lowF Tryz.prog [] Tryz.f94 = some (13, lc94.strip, [.tmp 4]) := by kernel_rfl
theorem fn94 : FnOk Tryz.prog 94 13 lc94 [.tmp 4] := ⟨Tryz.call94, [], _, Tryz.func94, low94⟩
/-- cmp.Or[int] -/
def lc96 : LCode :=
  (.seq (.region [⟨some 2, .mv (.const (.int .i64 0)), none⟩]) (.seq (.region [⟨some 3, .mv (.const (.int .i64 0)), none⟩]) (.seq (.seq (.region [⟨some 6, .mv (.tmp 0), none⟩, ⟨some
    7, .len (.tmp 6), none⟩, ⟨some 8, .mv (.const (.int .i64 0)), none⟩]) (.block 0 (.loop (.seq (.region [⟨some 9, .bin .lss (.tmp 8) (.tmp 7), none⟩]) (.seq (.cond (.tmp 9) .skip
    (.exit 0)) (.seq (.block 1 (.seq (.region [⟨some 10, .idx 1 (.tmp 6) (.tmp 8), none⟩, ⟨some 11, .load false 1 (.tmp 10), none⟩, ⟨some 5, .mv (.tmp 11), none⟩]) (.seq (.region
    [⟨some 12, .mv (.tmp 5), none⟩, ⟨some 13, .mv (.tmp 3), none⟩, ⟨some 14, .bin .neq (.tmp 12) (.tmp 13), none⟩]) (.cond (.tmp 14) (.seq (.region [⟨some 15, .mv (.tmp 5), none⟩,
    ⟨some 2, .mv (.tmp 15), none⟩]) .ret) .skip)))) (.region [⟨some 16, .bin .add (.tmp 8) (.const (.int .i64 1)), none⟩, ⟨some 8, .mv (.tmp 16), none⟩]))))))) (.seq (.region [⟨some
    17, .mv (.tmp 3), none⟩, ⟨some 2, .mv (.tmp 17), none⟩]) .ret))))
theorem low96 : lowF Tryz.prog [] Tryz.f96 = some (18, lc96.strip, [.tmp 2]) := by kernel_rfl
theorem fn96 : FnOk Tryz.prog 96 18 lc96 [.tmp 2] := ⟨Tryz.call96, [], _, Tryz.func96, low96⟩
/-- cmp.Compare[int] -/
def lc97 : LCode :=
  (.seq (.region [⟨some 4, .mv (.const (.int .i64 0)), none⟩]) (.seq (.region [⟨some 7, .mv (.tmp 0), none⟩, ⟨some 8, .call (.func 134) [(.tmp 7)], none⟩, ⟨some 5, .mv (.tmp 8),
    none⟩]) (.seq (.region [⟨some 9, .mv (.tmp 1), none⟩, ⟨some 10, .call (.func 134) [(.tmp 9)], none⟩, ⟨some 6, .mv (.tmp 10), none⟩]) (.seq (.seq (.region [⟨some 11, .mv (.tmp
    5), none⟩]) (.cond (.tmp 11) (.seq (.seq (.region [⟨some 12, .mv (.tmp 6), none⟩]) (.cond (.tmp 12) (.seq (.region [⟨some 4, .mv (.const (.int .i64 0)), none⟩]) .ret) .skip))
    (.seq (.region [⟨some 4, .mv (.const (.int .i64 (-1))), none⟩]) .ret)) .skip)) (.seq (.seq (.region [⟨some 13, .mv (.tmp 6), none⟩]) (.cond (.tmp 13) (.seq (.region [⟨some 4,
    .mv (.const (.int .i64 1)), none⟩]) .ret) .skip)) (.seq (.seq (.region [⟨some 14, .mv (.tmp 0), none⟩, ⟨some 15, .mv (.tmp 1), none⟩, ⟨some 16, .bin .lss (.tmp 14) (.tmp 15),
    none⟩]) (.cond (.tmp 16) (.seq (.region [⟨some 4, .mv (.const (.int .i64 (-1))), none⟩]) .ret) .skip)) (.seq (.seq (.region [⟨some 17, .mv (.tmp 0), none⟩, ⟨some 18, .mv (.tmp
    1), none⟩, ⟨some 19, .bin .gtr (.tmp 17) (.tmp 18), none⟩]) (.cond (.tmp 19) (.seq (.region [⟨some 4, .mv (.const (.int .i64 1)), none⟩]) .ret) .skip)) (.seq (.region [⟨some 4,
    .mv (.const (.int .i64 0)), none⟩]) .ret))))))))
theorem low97 : lowF Tryz.prog [] Tryz.f97 = some (20, lc97.strip, [.tmp 4]) := by kernel_rfl
theorem fn97 : FnOk Tryz.prog 97 20 lc97 [.tmp 4] := ⟨Tryz.call97, [], _, Tryz.func97, low97⟩
/-- slices.Compare[[]int,int] -/
def lc98 : LCode :=
  (.seq (.region [⟨some 4, .mv (.const (.int .i64 0)), none⟩]) (.seq (.seq (.region [⟨some 9, .mv (.tmp 0), none⟩, ⟨some 10, .len (.tmp 9), none⟩, ⟨some 11, .mv (.const (.int .i64
    0)), none⟩]) (.block 0 (.loop (.seq (.region [⟨some 12, .bin .lss (.tmp 11) (.tmp 10), none⟩]) (.seq (.cond (.tmp 12) .skip (.exit 0)) (.seq (.block 1 (.seq (.region [⟨some 13,
    .mv (.tmp 11), none⟩, ⟨some 14, .idx 1 (.tmp 9) (.tmp 11), none⟩, ⟨some 15, .load false 1 (.tmp 14), none⟩, ⟨some 5, .mv (.tmp 13), none⟩, ⟨some 6, .mv (.tmp 15), none⟩]) (.seq
    (.seq (.region [⟨some 16, .mv (.tmp 5), none⟩, ⟨some 17, .mv (.tmp 1), none⟩, ⟨some 18, .len (.tmp 17), none⟩, ⟨some 19, .bin .geq (.tmp 16) (.tmp 18), none⟩]) (.cond (.tmp 19)
    (.seq (.region [⟨some 4, .mv (.const (.int .i64 1)), none⟩]) .ret) .skip)) (.seq (.region [⟨some 20, .mv (.tmp 1), none⟩, ⟨some 21, .mv (.tmp 5), none⟩, ⟨some 22, .idx 1 (.tmp
    20) (.tmp 21), none⟩, ⟨some 23, .load false 1 (.tmp 22), none⟩, ⟨some 7, .mv (.tmp 23), none⟩]) (.seq (.region [⟨some 24, .mv (.tmp 6), none⟩, ⟨some 25, .mv (.tmp 7), none⟩,
    ⟨some 26, .call (.func 97) [(.tmp 24), (.tmp 25)], none⟩, ⟨some 8, .mv (.tmp 26), none⟩]) (.seq (.region [⟨some 27, .mv (.tmp 8), none⟩, ⟨some 28, .bin .neq (.tmp 27) (.const
    (.int .i64 0)), none⟩]) (.cond (.tmp 28) (.seq (.region [⟨some 29, .mv (.tmp 8), none⟩, ⟨some 4, .mv (.tmp 29), none⟩]) .ret) .skip))))))) (.region [⟨some 30, .bin .add (.tmp
    11) (.const (.int .i64 1)), none⟩, ⟨some 11, .mv (.tmp 30), none⟩]))))))) (.seq (.seq (.region [⟨some 31, .mv (.tmp 0), none⟩, ⟨some 32, .len (.tmp 31), none⟩, ⟨some 33, .mv
    (.tmp 1), none⟩, ⟨some 34, .len (.tmp 33), none⟩, ⟨some 35, .bin .lss (.tmp 32) (.tmp 34), none⟩]) (.cond (.tmp 35) (.seq (.region [⟨some 4, .mv (.const (.int .i64 (-1))),
    none⟩]) .ret) .skip)) (.seq (.region [⟨some 4, .mv (.const (.int .i64 0)), none⟩]) .ret))))
theorem low98 : lowF Tryz.prog [] Tryz.f98 = some (36, lc98.strip, [.tmp 4]) := by kernel_rfl
theorem fn98 : FnOk Tryz.prog 98 36 lc98 [.tmp 4] := ⟨Tryz.call98, [], _, Tryz.func98, low98⟩
/-- slices.Index[[]int,int] -/
def lc99 : LCode :=
  (.seq (.region [⟨some 4, .mv (.const (.int .i64 0)), none⟩]) (.seq (.seq (.region [⟨some 6, .mv (.tmp 0), none⟩, ⟨some 7, .len (.tmp 6), none⟩, ⟨some 8, .mv (.const (.int .i64
    0)), none⟩]) (.block 0 (.loop (.seq (.region [⟨some 9, .bin .lss (.tmp 8) (.tmp 7), none⟩]) (.seq (.cond (.tmp 9) .skip (.exit 0)) (.seq (.block 1 (.seq (.region [⟨some 10, .mv
    (.tmp 8), none⟩, ⟨some 5, .mv (.tmp 10), none⟩]) (.seq (.region [⟨some 11, .mv (.tmp 1), none⟩, ⟨some 12, .mv (.tmp 0), none⟩, ⟨some 13, .mv (.tmp 5), none⟩, ⟨some 14, .idx 1
    (.tmp 12) (.tmp 13), none⟩, ⟨some 15, .load false 1 (.tmp 14), none⟩, ⟨some 16, .bin .eql (.tmp 11) (.tmp 15), none⟩]) (.cond (.tmp 16) (.seq (.region [⟨some 17, .mv (.tmp 5),
    none⟩, ⟨some 4, .mv (.tmp 17), none⟩]) .ret) .skip)))) (.region [⟨some 18, .bin .add (.tmp 8) (.const (.int .i64 1)), none⟩, ⟨some 8, .mv (.tmp 18), none⟩]))))))) (.seq (.region
    [⟨some 4, .mv (.const (.int .i64 (-1))), none⟩]) .ret)))
theorem low99 : lowF Tryz.prog [] Tryz.f99 = some (19, lc99.strip, [.tmp 4]) := by kernel_rfl
theorem fn99 : FnOk Tryz.prog 99 19 lc99 [.tmp 4] := ⟨Tryz.call99, [], _, Tryz.func99, low99⟩
end Go.Pw

set_option linter.unusedVariables false
set_option maxHeartbeats 2000000
set_option maxRecDepth 100000
namespace Go.Pw
open Go Go.Proofs
/-- strings.splitSeq -/
def lc87 : LCode :=
  (.seq (.region [⟨some 3, .box (.tmp 0), none⟩, ⟨some 4, .box (.tmp 1), none⟩, ⟨some 5, .box (.tmp 2), none⟩, ⟨some 6, .mv (.const .nilFunc), none⟩]) (.seq (.region [⟨some 7, .mkfn
    122 [(.tmp 4), (.tmp 3), (.tmp 5)], none⟩, ⟨some 6, .mv (.tmp 7), none⟩]) .ret))
theorem low87 : lowF Tryz.prog [] Tryz.f87 = some (8, lc87.strip, [.tmp 6]) := by kernel_rfl
theorem fn87 : FnOk Tryz.prog 87 8 lc87 [.tmp 6] := ⟨Tryz.call87, [], _, Tryz.func87, low87⟩
/-- moonpool/sonar.BoundOf$1 -/
def lc101 : LCode :=
  (.seq (.region [⟨some 3, .mv (.const (.int .i64 0)), none⟩, ⟨some 4, .mv (.const (.bool false)), none⟩]) (.seq (.region [⟨some 5, .mv (.const (.int .i64 0)), none⟩]) (.seq (.seq
    (.region [⟨some 10, .mv (.tmp 0), none⟩, ⟨some 11, .len (.tmp 10), none⟩, ⟨some 12, .mv (.const (.int .i64 0)), none⟩]) (.block 0 (.loop (.seq (.region [⟨some 13, .bin .lss
    (.tmp 12) (.tmp 11), none⟩]) (.seq (.cond (.tmp 13) .skip (.exit 0)) (.seq (.block 1 (.seq (.region [⟨some 14, .mv (.tmp 12), none⟩, ⟨some 15, .idx 1 (.tmp 10) (.tmp 12), none⟩,
    ⟨some 16, .load false 1 (.tmp 15), none⟩, ⟨some 6, .mv (.tmp 14), none⟩, ⟨some 7, .mv (.tmp 16), none⟩]) (.seq (.seq (.region [⟨some 17, .mv (.tmp 0), none⟩, ⟨some 18, .mv (.tmp
    6), none⟩, ⟨some 19, .slc 1 (.tmp 17) none (some (.tmp 18)), none⟩, ⟨some 20, .len (.tmp 19), none⟩, ⟨some 21, .mv (.const (.int .i64 0)), none⟩]) (.block 2 (.loop (.seq
    (.region [⟨some 22, .bin .lss (.tmp 21) (.tmp 20), none⟩]) (.seq (.cond (.tmp 22) .skip (.exit 2)) (.seq (.block 3 (.seq (.region [⟨some 23, .idx 1 (.tmp 19) (.tmp 21), none⟩,
    ⟨some 24, .load false 1 (.tmp 23), none⟩, ⟨some 9, .mv (.tmp 24), none⟩]) (.seq (.regionD [⟨some 25, .load false 1 (.tmp 1), none⟩, ⟨some 26, .mv (.tmp 7), none⟩, ⟨some 27, .idx
    3 (.tmp 25) (.tmp 26), none⟩, ⟨some 28, .load true 3 (.tmp 27), none⟩, ⟨some 29, .load false 1 (.tmp 1), none⟩, ⟨some 30, .mv (.tmp 9), none⟩, ⟨some 31, .idx 3 (.tmp 29) (.tmp
    30), none⟩, ⟨some 32, .load true 3 (.tmp 31), none⟩, ⟨some 33, .call (.func 102) [(.tmp 28), (.tmp 32)], none⟩, ⟨some 34, .un .not (.tmp 33), none⟩] [0, 0, 3, 7, 0, 0, 48, 112,
    255, 511] [0, 1, 2, 3, 4, 5, 6, 7, 8, 9]) (.cond (.tmp 34) (.seq (.region [⟨some 3, .mv (.const (.int .i64 0)), none⟩, ⟨some 4, .mv (.const (.bool false)), none⟩]) .ret)
    .skip)))) (.region [⟨some 35, .bin .add (.tmp 21) (.const (.int .i64 1)), none⟩, ⟨some 21, .mv (.tmp 35), none⟩]))))))) (.region [⟨some 36, .mv (.tmp 5), none⟩, ⟨some 37, .load
    false 1 (.tmp 1), none⟩, ⟨some 38, .mv (.tmp 7), none⟩, ⟨some 39, .idx 3 (.tmp 37) (.tmp 38), none⟩, ⟨some 40, .load true 3 (.tmp 39), none⟩, ⟨some 41, .call (.func 103) [(.tmp
    40)], none⟩, ⟨some 42, .bin .sub (.tmp 36) (.tmp 41), none⟩, ⟨some 5, .mv (.tmp 42), none⟩])))) (.region [⟨some 43, .bin .add (.tmp 12) (.const (.int .i64 1)), none⟩, ⟨some 12,
    .mv (.tmp 43), none⟩]))))))) (.seq (.region [⟨some 44, .mv (.tmp 5), none⟩, ⟨some 3, .mv (.tmp 44), none⟩, ⟨some 4, .mv (.const (.bool true)), none⟩]) .ret))))
theorem low101 : lowF Tryz.prog [] Tryz.f101 = some (45, lc101.strip, [.tmp 3, .tmp 4]) := by kernel_rfl
theorem fn101 : FnOk Tryz.prog 101 45 lc101 [.tmp 3, .tmp 4] := ⟨Tryz.call101, [], _, Tryz.func101, low101⟩
/-- moonpool/sonar.disturb -/
def lc102 : LCode :=
  (.seq (.region [⟨some 2, .boxS (.tmp 0), none⟩, ⟨some 3, .boxS (.tmp 1), none⟩, ⟨some 4, .mv (.const (.bool false)), none⟩]) (.seq (.region [⟨some 5, .fld 0 (.tmp 2), none⟩, ⟨some
    6, .load false 1 (.tmp 5), none⟩, ⟨some 7, .fld 0 (.tmp 3), none⟩, ⟨some 8, .load false 1 (.tmp 7), none⟩, ⟨some 9, .bin .sub (.tmp 6) (.tmp 8), none⟩, ⟨some 10, .call (.func
    136) [(.tmp 9)], none⟩, ⟨some 11, .bin .leq (.tmp 10) (.const (.int .i64 1)), none⟩, ⟨some 4, .mv (.tmp 11), none⟩]) .ret))
theorem low102 : lowF Tryz.prog [2, 3] Tryz.f102 = some (12, lc102.strip, [.tmp 4]) := by kernel_rfl
theorem fn102 : FnOk Tryz.prog 102 12 lc102 [.tmp 4] := ⟨Tryz.call102, [2, 3], _, Tryz.func102, low102⟩
/-- moonpool/sonar.window -/
def lc103 : LCode :=
  (.seq (.region [⟨some 1, .boxS (.tmp 0), none⟩, ⟨some 2, .mv (.const (.int .i64 0)), none⟩]) (.seq (.region [⟨some 3, .fld 1 (.tmp 1), none⟩, ⟨some 4, .load false 1 (.tmp 3),
    none⟩, ⟨some 5, .fld 2 (.tmp 1), none⟩, ⟨some 6, .load false 1 (.tmp 5), none⟩, ⟨some 7, .bin .add (.tmp 4) (.tmp 6), none⟩, ⟨some 2, .mv (.tmp 7), none⟩]) .ret))
theorem low103 : lowF Tryz.prog [1] Tryz.f103 = some (8, lc103.strip, [.tmp 2]) := by kernel_rfl
theorem fn103 : FnOk Tryz.prog 103 8 lc103 [.tmp 2] := ⟨Tryz.call103, [1], _, Tryz.func103, low103⟩
/-- moonpool/sonar.cycleErr -/
def lc104 : LCode :=
  (.seq (.region [⟨some 2, .mv (.const (.int .i64 0)), none⟩]) (.seq (.region [⟨some 3, .mv (.tmp 0), none⟩, ⟨some 4, .call (.func 69) [(.tmp 3), (.const (.int .i64 1)), (.const
    (.int .i64 40))], none⟩, ⟨some 5, .call (.func 56) [(.tmp 4), (.const (.int .i64 2))], none⟩, ⟨some 2, .mv (.tmp 5), none⟩]) .ret))
theorem low104 : lowF Tryz.prog [] Tryz.f104 = some (6, lc104.strip, [.tmp 2]) := by kernel_rfl
theorem fn104 : FnOk Tryz.prog 104 6 lc104 [.tmp 2] := ⟨Tryz.call104, [], _, Tryz.func104, low104⟩
/-- moonpool/sonar.placed -/
def lc105 : LCode :=
  (.seq (.region [⟨some 6, .mv (.const (.slice none 0 0)), none⟩]) (.scope (.seq (.region [⟨some 12, .mv (.tmp 1), none⟩, ⟨some 13, .len (.tmp 12), none⟩, ⟨some 7, .mv (.tmp 13),
    none⟩]) (.seq (.seq (.region [⟨some 14, .mv (.tmp 7), none⟩, ⟨some 15, .mv (.tmp 0), none⟩, ⟨some 16, .len (.tmp 15), none⟩, ⟨some 17, .bin .eql (.tmp 14) (.tmp 16), none⟩])
    (.cond (.tmp 17) (.seq (.region [⟨some 18, .mv (.tmp 1), none⟩, ⟨some 6, .mv (.tmp 18), none⟩]) .ret) .skip)) (.seq .label (.seq (.seq (.region [⟨some 19, .mv (.tmp 2), none⟩,
    ⟨some 20, .mv (.const (.int .i64 0)), none⟩]) (.block 0 (.loop (.seq (.region [⟨some 21, .bin .lss (.tmp 20) (.tmp 19), none⟩]) (.seq (.cond (.tmp 21) .skip (.exit 0)) (.seq
    (.block 1 (.seq (.region [⟨some 22, .mv (.tmp 20), none⟩, ⟨some 8, .mv (.tmp 22), none⟩]) (.seq (.region [⟨some 23, .mv (.tmp 1), none⟩, ⟨some 24, .call (.func 137) [(.tmp 23)],
    none⟩, ⟨some 25, .mv (.tmp 8), none⟩, ⟨some 26, .lit false 3 1 [(.tmp 25)], none⟩, ⟨some 27, .append false 3 1 8 (.tmp 24) (.tmp 26), none⟩, ⟨some 9, .mv (.tmp 27), none⟩])
    (.seq (.seq (.region [⟨some 28, .mv (.tmp 9), none⟩, ⟨some 29, .len (.tmp 28), none⟩, ⟨some 30, .mv (.const (.int .i64 0)), none⟩]) (.block 2 (.loop (.seq (.region [⟨some 31,
    .bin .lss (.tmp 30) (.tmp 29), none⟩]) (.seq (.cond (.tmp 31) .skip (.exit 2)) (.seq (.block 3 (.seq (.region [⟨some 32, .mv (.tmp 30), none⟩, ⟨some 10, .mv (.tmp 32), none⟩])
    (.seq (.region [⟨some 33, .mv (.tmp 0), none⟩, ⟨some 34, .mv (.tmp 9), none⟩, ⟨some 35, .mv (.tmp 10), none⟩, ⟨some 36, .mv (.tmp 7), none⟩, ⟨some 37, .mv (.tmp 2), none⟩, ⟨some
    38, .call (.func 138) [(.tmp 33), (.tmp 34), (.tmp 35), (.tmp 36), (.tmp 37)], none⟩]) (.cond (.tmp 38) (.exit 1) .skip)))) (.region [⟨some 39, .bin .add (.tmp 30) (.const (.int
    .i64 1)), none⟩, ⟨some 30, .mv (.tmp 39), none⟩]))))))) (.seq (.seq (.region [⟨some 40, .mv (.tmp 0), none⟩, ⟨some 41, .mv (.tmp 9), none⟩, ⟨some 42, .mv (.tmp 2), none⟩, ⟨some
    43, .call (.func 105) [(.tmp 40), (.tmp 41), (.tmp 42)], none⟩, ⟨some 11, .mv (.tmp 43), none⟩]) (.seq (.region [⟨some 44, .mv (.tmp 11), none⟩, ⟨some 45, .isnil true (.tmp 44),
    none⟩]) (.cond (.tmp 45) (.seq (.region [⟨some 46, .mv (.tmp 11), none⟩, ⟨some 6, .mv (.tmp 46), none⟩]) .ret) .skip))) (.seq (.region [⟨some 47, .mv (.tmp 7), none⟩, ⟨some 48,
    .bin .eql (.tmp 47) (.const (.int .i64 0)), none⟩]) (.cond (.tmp 48) (.exit 0) .skip))))))) (.region [⟨some 49, .bin .add (.tmp 20) (.const (.int .i64 1)), none⟩, ⟨some 20, .mv
    (.tmp 49), none⟩]))))))) (.seq (.region [⟨some 6, .mv (.const (.slice none 0 0)), none⟩]) .ret)))))))
theorem low105 : lowF Tryz.prog [] Tryz.f105 = some (50, lc105.strip, [.tmp 6]) := by kernel_rfl
theorem fn105 : FnOk Tryz.prog 105 50 lc105 [.tmp 6] := ⟨Tryz.call105, [], _, Tryz.func105, low105⟩
/-- moonpool/sonar.samplesErr -/
def lc106 : LCode :=
  (.seq (.region [⟨some 4, .mv (.const (.int .i64 0)), none⟩]) (.seq (.region [⟨some 6, .mv (.tmp 0), none⟩, ⟨some 7, .call (.func 139) [(.tmp 6), (.func 140)], none⟩, ⟨some 5, .mv
    (.tmp 7), none⟩]) (.seq (.region [⟨some 8, .mv (.tmp 0), none⟩, ⟨some 9, .len (.tmp 8), none⟩, ⟨some 10, .mv (.tmp 1), none⟩, ⟨some 11, .call (.func 127) [(.tmp 9), (.tmp 10)],
    none⟩, ⟨some 12, .mv (.tmp 5), none⟩, ⟨some 13, .un .not (.tmp 12), none⟩, ⟨some 14, .call (.func 56) [(.tmp 13), (.const (.int .i64 2))], none⟩, ⟨some 15, .lit false 33 1
    [(.tmp 11), (.tmp 14)], none⟩, ⟨some 16, .call (.func 55) [(.tmp 15)], none⟩, ⟨some 4, .mv (.tmp 16), none⟩]) .ret)))
theorem low106 : lowF Tryz.prog [] Tryz.f106 = some (17, lc106.strip, [.tmp 4]) := by kernel_rfl
theorem fn106 : FnOk Tryz.prog 106 17 lc106 [.tmp 4] := ⟨Tryz.call106, [], _, Tryz.func106, low106⟩
/-- slices.IndexFunc[[]int,int] -/
def lc107 : LCode :=
  (.seq (.region [⟨some 4, .mv (.const (.int .i64 0)), none⟩]) (.seq (.seq (.region [⟨some 6, .mv (.tmp 0), none⟩, ⟨some 7, .len (.tmp 6), none⟩, ⟨some 8, .mv (.const (.int .i64
    0)), none⟩]) (.block 0 (.loop (.seq (.region [⟨some 9, .bin .lss (.tmp 8) (.tmp 7), none⟩]) (.seq (.cond (.tmp 9) .skip (.exit 0)) (.seq (.block 1 (.seq (.region [⟨some 10, .mv
    (.tmp 8), none⟩, ⟨some 5, .mv (.tmp 10), none⟩]) (.seq (.region [⟨some 11, .mv (.tmp 1), none⟩, ⟨some 12, .mv (.tmp 0), none⟩, ⟨some 13, .mv (.tmp 5), none⟩, ⟨some 14, .idx 1
    (.tmp 12) (.tmp 13), none⟩, ⟨some 15, .load false 1 (.tmp 14), none⟩, ⟨some 16, .call (.tmp 11) [(.tmp 15)], none⟩]) (.cond (.tmp 16) (.seq (.region [⟨some 17, .mv (.tmp 5),
    none⟩, ⟨some 4, .mv (.tmp 17), none⟩]) .ret) .skip)))) (.region [⟨some 18, .bin .add (.tmp 8) (.const (.int .i64 1)), none⟩, ⟨some 8, .mv (.tmp 18), none⟩]))))))) (.seq (.region
    [⟨some 4, .mv (.const (.int .i64 (-1))), none⟩]) .ret)))
theorem low107 : lowF Tryz.prog [] Tryz.f107 = some (19, lc107.strip, [.tmp 4]) := by kernel_rfl
theorem fn107 : FnOk Tryz.prog 107 19 lc107 [.tmp 4] := ⟨Tryz.call107, [], _, Tryz.func107, low107⟩
/-- moonpool/sonar.CheckLayers -/
def lc108 : LCode :=
  (.seq (.region [⟨some 2, .mv (.const (.int .i64 0)), none⟩, ⟨some 3, .mv (.const (.int .i64 0)), none⟩]) (.seq (.seq (.region [⟨some 6, .mv (.tmp 0), none⟩, ⟨some 7, .len (.tmp
    6), none⟩, ⟨some 8, .call (.func 127) [(.tmp 7), (.const (.int .i64 6))], none⟩, ⟨some 4, .mv (.tmp 8), none⟩]) (.seq (.region [⟨some 9, .mv (.tmp 4), none⟩, ⟨some 10, .bin .neq
    (.tmp 9) (.const (.int .i64 0)), none⟩]) (.cond (.tmp 10) (.seq (.region [⟨some 11, .mv (.tmp 4), none⟩, ⟨some 2, .mv (.const (.int .i64 0)), none⟩, ⟨some 3, .mv (.tmp 11),
    none⟩]) .ret) .skip))) (.seq (.region [⟨some 5, .alloc [.nilFunc], none⟩, ⟨none, .store 1 (.tmp 5) (.func 141), none⟩]) (.seq (.region [⟨some 12, .mv (.tmp 0), none⟩, ⟨some 13,
    .mkfn 143 [(.tmp 5)], none⟩, ⟨some 14, .call (.func 142) [(.tmp 12), (.tmp 13)], none⟩, ⟨some 15, .ext (.tmp 14) 0, none⟩, ⟨some 16, .ext (.tmp 14) 1, none⟩, ⟨some 2, .mv (.tmp
    15), none⟩, ⟨some 3, .mv (.tmp 16), none⟩]) .ret))))
theorem low108 : lowF Tryz.prog [] Tryz.f108 = some (17, lc108.strip, [.tmp 2, .tmp 3]) := by kernel_rfl
theorem fn108 : FnOk Tryz.prog 108 17 lc108 [.tmp 2, .tmp 3] := ⟨Tryz.call108, [], _, Tryz.func108, low108⟩
/-- (moonpool/sonar.quotient).plus -/
def lc109 : LCode :=
  (.seq (.region [⟨some 2, .boxS (.tmp 0), none⟩, ⟨some 3, .boxS (.tmp 1), none⟩, ⟨some 4, .alloc [(.int .i64 0), (.int .i64 0)], none⟩]) (.seq (.region [⟨some 7, .fld 1 (.tmp 2),
    none⟩, ⟨some 8, .load false 1 (.tmp 7), none⟩, ⟨some 9, .fld 1 (.tmp 3), none⟩, ⟨some 10, .load false 1 (.tmp 9), none⟩, ⟨some 11, .call (.func 144) [(.tmp 8), (.tmp 10)],
    none⟩, ⟨some 5, .mv (.tmp 11), none⟩]) (.seq (.regionD [⟨some 12, .fld 0 (.tmp 2), none⟩, ⟨some 13, .load false 1 (.tmp 12), none⟩, ⟨some 14, .fld 1 (.tmp 3), none⟩, ⟨some 15,
    .load false 1 (.tmp 14), none⟩, ⟨some 16, .mv (.tmp 5), none⟩, ⟨some 17, .bin .quo (.tmp 15) (.tmp 16), none⟩, ⟨some 18, .bin .mul (.tmp 13) (.tmp 17), none⟩, ⟨some 19, .fld 0
    (.tmp 3), none⟩, ⟨some 20, .load false 1 (.tmp 19), none⟩, ⟨some 21, .fld 1 (.tmp 2), none⟩, ⟨some 22, .load false 1 (.tmp 21), none⟩, ⟨some 23, .mv (.tmp 5), none⟩, ⟨some 24,
    .bin .quo (.tmp 22) (.tmp 23), none⟩, ⟨some 25, .bin .mul (.tmp 20) (.tmp 24), none⟩, ⟨some 26, .bin .add (.tmp 18) (.tmp 25), none⟩, ⟨some 27, .fld 1 (.tmp 2), none⟩, ⟨some 28,
    .load false 1 (.tmp 27), none⟩, ⟨some 29, .mv (.tmp 5), none⟩, ⟨some 30, .bin .quo (.tmp 28) (.tmp 29), none⟩, ⟨some 31, .fld 1 (.tmp 3), none⟩, ⟨some 32, .load false 1 (.tmp
    31), none⟩, ⟨some 33, .bin .mul (.tmp 30) (.tmp 32), none⟩, ⟨some 34, .build [(.int .i64 0), (.int .i64 0)] [(0, 1, (.tmp 26)), (1, 1, (.tmp 33))], none⟩, ⟨some 6, .alloc [(.int
    .i64 0), (.int .i64 0)], none⟩, ⟨none, .store 2 (.tmp 6) (.tmp 34), none⟩] [0, 1, 0, 4, 0, 28, 63, 0, 128, 0, 512, 0, 3584, 8064, 16383, 0, 32768, 0, 229376, 0, 524288, 2064384,
    4194303, 0, 16777215] [0, 1, 2, 3, 4, 5, 6, 7, 8, 9, 10, 11, 12, 13, 14, 15, 16, 17, 18, 19, 20, 21, 22, 23, 24]) (.seq (.region [⟨some 35, .fld 0 (.tmp 6), none⟩, ⟨some 36,
    .load false 1 (.tmp 35), none⟩, ⟨some 37, .fld 1 (.tmp 6), none⟩, ⟨some 38, .load false 1 (.tmp 37), none⟩, ⟨some 39, .call (.func 144) [(.tmp 36), (.tmp 38)], none⟩, ⟨some 5,
    .mv (.tmp 39), none⟩]) (.seq (.regionD [⟨some 40, .fld 0 (.tmp 6), none⟩, ⟨some 41, .load false 1 (.tmp 40), none⟩, ⟨some 42, .mv (.tmp 5), none⟩, ⟨some 43, .bin .quo (.tmp 41)
    (.tmp 42), none⟩, ⟨some 44, .fld 1 (.tmp 6), none⟩, ⟨some 45, .load false 1 (.tmp 44), none⟩, ⟨some 46, .mv (.tmp 5), none⟩, ⟨some 47, .bin .quo (.tmp 45) (.tmp 46), none⟩,
    ⟨some 48, .build [(.int .i64 0), (.int .i64 0)] [(0, 1, (.tmp 43)), (1, 1, (.tmp 47))], none⟩, ⟨none, .store 2 (.tmp 4) (.tmp 48), none⟩] [0, 1, 0, 7, 0, 16, 0, 112, 255, 511]
    [0, 1, 2, 3, 4, 5, 6, 7, 8, 9]) .ret)))))
theorem low109 : lowF Tryz.prog [2, 3] Tryz.f109 = some (49, lc109.strip, [.cell 4 true 2]) := by kernel_rfl
theorem fn109 : FnOk Tryz.prog 109 49 lc109 [.cell 4 true 2] := ⟨Tryz.call109, [2, 3], _, Tryz.func109, low109⟩
/-- moonpool/sonar.gridErr -/
def lc110 : LCode :=
  (.seq (.region [⟨some 6, .mv (.const (.int .i64 0)), none⟩]) (.seq (.region [⟨some 7, .mv (.func 145), none⟩]) (.seq (.region [⟨some 8, .mv (.tmp 7), none⟩, ⟨some 9, .mv (.tmp 0),
    none⟩, ⟨some 10, .call (.tmp 8) [(.tmp 9)], none⟩, ⟨some 11, .mv (.tmp 10), none⟩, ⟨some 12, .mv (.tmp 7), some (11, true)⟩, ⟨some 13, .mv (.tmp 1), some (11, true)⟩, ⟨some 14,
    .call (.tmp 12) [(.tmp 13)], some (11, true)⟩, ⟨some 15, .pick (.tmp 11) (.tmp 14) (.const (.bool false)), none⟩, ⟨some 16, .call (.func 56) [(.tmp 15), (.const (.int .i64 2))],
    none⟩, ⟨some 17, .mv (.tmp 2), none⟩, ⟨some 18, .bin .leq (.tmp 17) (.const (.int .i64 10)), none⟩, ⟨some 19, .call (.func 56) [(.tmp 18), (.const (.int .i64 8))], none⟩, ⟨some
    20, .lit false 33 1 [(.tmp 16), (.tmp 19)], none⟩, ⟨some 21, .call (.func 55) [(.tmp 20)], none⟩, ⟨some 6, .mv (.tmp 21), none⟩]) .ret)))
theorem low110 : lowF Tryz.prog [] Tryz.f110 = some (22, lc110.strip, [.tmp 6]) := by kernel_rfl
theorem fn110 : FnOk Tryz.prog 110 22 lc110 [.tmp 6] := ⟨Tryz.call110, [], _, Tryz.func110, low110⟩
/-- moonpool/sonar.each[moonpool/api.SonarView] -/
def lc111 : LCode :=
  (.seq (.region [⟨some 4, .mv (.const (.int .i64 0)), none⟩, ⟨some 5, .mv (.const (.int .i64 0)), none⟩]) (.seq (.seq (.region [⟨some 9, .mv (.tmp 0), none⟩, ⟨some 10, .len (.tmp
    9), none⟩, ⟨some 11, .mv (.const (.int .i64 0)), none⟩]) (.block 0 (.loop (.seq (.region [⟨some 12, .bin .lss (.tmp 11) (.tmp 10), none⟩]) (.seq (.cond (.tmp 12) .skip (.exit
    0)) (.seq (.block 1 (.seq (.region [⟨some 13, .mv (.tmp 11), none⟩, ⟨some 14, .idx 6 (.tmp 9) (.tmp 11), none⟩, ⟨some 15, .load true 6 (.tmp 14), none⟩, ⟨some 7, .alloc [(.int
    .i64 0), (.int .i64 0), (.int .i64 0), (.int .i64 0), (.bool false), (.int .i64 0)], none⟩, ⟨some 6, .mv (.tmp 13), none⟩, ⟨none, .store 6 (.tmp 7) (.tmp 15), none⟩]) (.seq
    (.region [⟨some 16, .mv (.tmp 1), none⟩, ⟨some 17, .mv (.tmp 6), none⟩, ⟨some 18, .load true 6 (.tmp 7), none⟩, ⟨some 19, .call (.tmp 16) [(.tmp 17), (.tmp 18)], none⟩, ⟨some 8,
    .mv (.tmp 19), none⟩]) (.seq (.region [⟨some 20, .mv (.tmp 8), none⟩, ⟨some 21, .bin .neq (.tmp 20) (.const (.int .i64 0)), none⟩]) (.cond (.tmp 21) (.seq (.region [⟨some 22,
    .mv (.tmp 6), none⟩, ⟨some 23, .mv (.tmp 8), none⟩, ⟨some 4, .mv (.tmp 22), none⟩, ⟨some 5, .mv (.tmp 23), none⟩]) .ret) .skip))))) (.region [⟨some 24, .bin .add (.tmp 11)
    (.const (.int .i64 1)), none⟩, ⟨some 11, .mv (.tmp 24), none⟩]))))))) (.seq (.region [⟨some 4, .mv (.const (.int .i64 0)), none⟩, ⟨some 5, .mv (.const (.int .i64 0)), none⟩])
    .ret)))
theorem low111 : lowF Tryz.prog [] Tryz.f111 = some (25, lc111.strip, [.tmp 4, .tmp 5]) := by kernel_rfl
theorem fn111 : FnOk Tryz.prog 111 25 lc111 [.tmp 4, .tmp 5] := ⟨Tryz.call111, [], _, Tryz.func111, low111⟩
/-- moonpool/sonar.CheckSearch$1 -/
def lc112 : LCode :=
  (.seq (.region [⟨some 4, .boxS (.tmp 1), none⟩, ⟨some 5, .mv (.const (.int .i64 0)), none⟩]) (.seq (.regionD [⟨some 6, .fld 0 (.tmp 4), none⟩, ⟨some 7, .load true 5 (.tmp 6),
    none⟩, ⟨some 8, .fld 0 (.tmp 2), none⟩, ⟨some 9, .load false 1 (.tmp 8), none⟩, ⟨some 10, .fld 1 (.tmp 2), none⟩, ⟨some 11, .load false 1 (.tmp 10), none⟩, ⟨some 12, .call
    (.func 113) [(.tmp 7), (.tmp 9), (.tmp 11)], none⟩, ⟨some 13, .fld 5 (.tmp 4), none⟩, ⟨some 14, .load false 1 (.tmp 13), none⟩, ⟨some 15, .call (.func 69) [(.tmp 14), (.const
    (.int .i64 0)), (.const (.int .i64 1000))], none⟩, ⟨some 16, .call (.func 56) [(.tmp 15), (.const (.int .i64 2))], none⟩, ⟨some 17, .lit false 33 1 [(.tmp 12), (.tmp 16)],
    none⟩, ⟨some 18, .call (.func 55) [(.tmp 17)], none⟩, ⟨some 5, .mv (.tmp 18), none⟩] [0, 1, 0, 4, 0, 16, 63, 0, 128, 511, 1023, 2047, 4095, 8191] [0, 1, 2, 3, 4, 5, 6, 7, 8, 9,
    10, 11, 12, 13]) .ret))
theorem low112 : lowF Tryz.prog [4] Tryz.f112 = some (19, lc112.strip, [.tmp 5]) := by kernel_rfl
theorem fn112 : FnOk Tryz.prog 112 19 lc112 [.tmp 5] := ⟨Tryz.call112, [4], _, Tryz.func112, low112⟩
/-- moonpool/sonar.rayErr -/
def lc113 : LCode :=
  (.seq (.region [⟨some 3, .boxS (.tmp 0), none⟩, ⟨some 6, .mv (.const (.int .i64 0)), none⟩]) (.seq (.region [⟨some 7, .fld 0 (.tmp 3), none⟩, ⟨some 8, .load true 2 (.tmp 7),
    none⟩, ⟨some 9, .mv (.tmp 1), none⟩, ⟨some 10, .mv (.tmp 2), none⟩, ⟨some 11, .call (.func 146) [(.tmp 8), (.tmp 9), (.tmp 10)], none⟩, ⟨some 12, .mv (.tmp 11), none⟩, ⟨some 13,
    .fld 2 (.tmp 3), some (12, true)⟩, ⟨some 14, .load true 2 (.tmp 13), some (12, true)⟩, ⟨some 15, .mv (.tmp 1), some (12, true)⟩, ⟨some 16, .mv (.tmp 2), some (12, true)⟩, ⟨some
    17, .call (.func 146) [(.tmp 14), (.tmp 15), (.tmp 16)], some (12, true)⟩, ⟨some 18, .pick (.tmp 12) (.tmp 17) (.const (.bool false)), none⟩, ⟨some 19, .call (.func 56) [(.tmp
    18), (.const (.int .i64 6))], none⟩, ⟨some 6, .mv (.tmp 19), none⟩]) .ret))
theorem low113 : lowF Tryz.prog [3] Tryz.f113 = some (20, lc113.strip, [.tmp 6]) := by kernel_rfl
theorem fn113 : FnOk Tryz.prog 113 20 lc113 [.tmp 6] := ⟨Tryz.call113, [3], _, Tryz.func113, low113⟩
/-- moonpool/sonar.each[int] -/
def lc114 : LCode :=
  (.seq (.region [⟨some 4, .mv (.const (.int .i64 0)), none⟩, ⟨some 5, .mv (.const (.int .i64 0)), none⟩]) (.seq (.seq (.region [⟨some 9, .mv (.tmp 0), none⟩, ⟨some 10, .len (.tmp
    9), none⟩, ⟨some 11, .mv (.const (.int .i64 0)), none⟩]) (.block 0 (.loop (.seq (.region [⟨some 12, .bin .lss (.tmp 11) (.tmp 10), none⟩]) (.seq (.cond (.tmp 12) .skip (.exit
    0)) (.seq (.block 1 (.seq (.region [⟨some 13, .mv (.tmp 11), none⟩, ⟨some 14, .idx 1 (.tmp 9) (.tmp 11), none⟩, ⟨some 15, .load false 1 (.tmp 14), none⟩, ⟨some 6, .mv (.tmp 13),
    none⟩, ⟨some 7, .mv (.tmp 15), none⟩]) (.seq (.region [⟨some 16, .mv (.tmp 1), none⟩, ⟨some 17, .mv (.tmp 6), none⟩, ⟨some 18, .mv (.tmp 7), none⟩, ⟨some 19, .call (.tmp 16)
    [(.tmp 17), (.tmp 18)], none⟩, ⟨some 8, .mv (.tmp 19), none⟩]) (.seq (.region [⟨some 20, .mv (.tmp 8), none⟩, ⟨some 21, .bin .neq (.tmp 20) (.const (.int .i64 0)), none⟩])
    (.cond (.tmp 21) (.seq (.region [⟨some 22, .mv (.tmp 6), none⟩, ⟨some 23, .mv (.tmp 8), none⟩, ⟨some 4, .mv (.tmp 22), none⟩, ⟨some 5, .mv (.tmp 23), none⟩]) .ret) .skip)))))
    (.region [⟨some 24, .bin .add (.tmp 11) (.const (.int .i64 1)), none⟩, ⟨some 11, .mv (.tmp 24), none⟩]))))))) (.seq (.region [⟨some 4, .mv (.const (.int .i64 0)), none⟩, ⟨some
    5, .mv (.const (.int .i64 0)), none⟩]) .ret)))
theorem low114 : lowF Tryz.prog [] Tryz.f114 = some (25, lc114.strip, [.tmp 4, .tmp 5]) := by kernel_rfl
theorem fn114 : FnOk Tryz.prog 114 25 lc114 [.tmp 4, .tmp 5] := ⟨Tryz.call114, [], _, Tryz.func114, low114⟩
/-- moonpool/sonar.CheckSearch$2 -/
def lc115 : LCode :=
  (.seq (.region [⟨some 6, .mv (.const (.int .i64 0)), none⟩]) (.seq (.regionD [⟨some 8, .mv (.tmp 1), none⟩, ⟨some 9, .fld 0 (.tmp 2), none⟩, ⟨some 10, .load false 1 (.tmp 9),
    none⟩, ⟨some 11, .fld 1 (.tmp 2), none⟩, ⟨some 12, .load false 1 (.tmp 11), none⟩, ⟨some 13, .bin .mul (.tmp 10) (.tmp 12), none⟩, ⟨some 14, .bin .sub (.tmp 13) (.const (.int
    .i64 1)), none⟩, ⟨some 15, .call (.func 69) [(.tmp 8), (.const (.int .i64 0)), (.tmp 14)], none⟩, ⟨some 16, .call (.func 56) [(.tmp 15), (.const (.int .i64 6))], none⟩, ⟨some
    17, .mv (.tmp 1), none⟩, ⟨some 18, .load false 1 (.tmp 3), none⟩, ⟨some 19, .bin .gtr (.tmp 17) (.tmp 18), none⟩, ⟨some 20, .call (.func 56) [(.tmp 19), (.const (.int .i64 9))],
    none⟩, ⟨some 21, .lit false 33 1 [(.tmp 16), (.tmp 20)], none⟩, ⟨some 22, .call (.func 55) [(.tmp 21)], none⟩, ⟨some 7, .mv (.tmp 22), none⟩] [0, 0, 2, 0, 8, 30, 62, 127, 255,
    0, 0, 1536, 4095, 8191, 16383, 32767] [0, 1, 2, 3, 4, 5, 6, 7, 8, 9, 10, 11, 12, 13, 14, 15]) (.seq (.region [⟨some 23, .mv (.tmp 1), none⟩, ⟨none, .store 1 (.tmp 3) (.tmp 23),
    none⟩]) (.seq (.region [⟨some 24, .mv (.tmp 7), none⟩, ⟨some 6, .mv (.tmp 24), none⟩]) .ret))))
theorem low115 : lowF Tryz.prog [] Tryz.f115 = some (25, lc115.strip, [.tmp 6]) := by kernel_rfl
theorem fn115 : FnOk Tryz.prog 115 25 lc115 [.tmp 6] := ⟨Tryz.call115, [], _, Tryz.func115, low115⟩
/-- moonpool/sonar.crossed -/
def lc116 : LCode :=
  (.seq (.region [⟨some 1, .boxS (.tmp 0), none⟩, ⟨some 2, .mv (.const (.slice none 0 0)), none⟩]) (.seq (.regionD [⟨some 9, .fld 2 (.tmp 1), none⟩, ⟨some 10, .fld 0 (.tmp 9),
    none⟩, ⟨some 11, .load false 1 (.tmp 10), none⟩, ⟨some 12, .fld 0 (.tmp 1), none⟩, ⟨some 13, .fld 0 (.tmp 12), none⟩, ⟨some 14, .load false 1 (.tmp 13), none⟩, ⟨some 15, .bin
    .sub (.tmp 11) (.tmp 14), none⟩, ⟨some 16, .fld 2 (.tmp 1), none⟩, ⟨some 17, .fld 1 (.tmp 16), none⟩, ⟨some 18, .load false 1 (.tmp 17), none⟩, ⟨some 19, .fld 0 (.tmp 1), none⟩,
    ⟨some 20, .fld 1 (.tmp 19), none⟩, ⟨some 21, .load false 1 (.tmp 20), none⟩, ⟨some 22, .bin .sub (.tmp 18) (.tmp 21), none⟩, ⟨some 3, .mv (.tmp 15), none⟩, ⟨some 4, .mv (.tmp
    22), none⟩] [0, 1, 3, 0, 8, 24, 63, 0, 128, 384, 0, 1024, 3072, 8064, 127, 32767] [0, 1, 2, 3, 4, 5, 6, 7, 8, 9, 10, 11, 12, 13, 14, 15]) (.seq (.region [⟨some 5, .mv (.const
    (.slice none 0 0)), none⟩]) (.seq (.seq (.region [⟨some 23, .fld 0 (.tmp 1), none⟩, ⟨some 24, .fld 1 (.tmp 23), none⟩, ⟨some 25, .load false 1 (.tmp 24), none⟩, ⟨some 26, .fld 2
    (.tmp 1), none⟩, ⟨some 27, .fld 1 (.tmp 26), none⟩, ⟨some 28, .load false 1 (.tmp 27), none⟩, ⟨some 29, .mm false [(.tmp 25), (.tmp 28)], none⟩, ⟨some 6, .mv (.tmp 29), none⟩])
    (.block 0 (.loop (.seq (.seq (.region [⟨some 30, .mv (.tmp 6), none⟩, ⟨some 31, .fld 0 (.tmp 1), none⟩, ⟨some 32, .fld 1 (.tmp 31), none⟩, ⟨some 33, .load false 1 (.tmp 32),
    none⟩, ⟨some 34, .fld 2 (.tmp 1), none⟩, ⟨some 35, .fld 1 (.tmp 34), none⟩, ⟨some 36, .load false 1 (.tmp 35), none⟩, ⟨some 37, .mm true [(.tmp 33), (.tmp 36)], none⟩, ⟨some 38,
    .bin .leq (.tmp 30) (.tmp 37), none⟩]) (.cond (.tmp 38) .skip (.exit 0))) (.seq (.block 1 (.seq (.region [⟨some 41, .fld 0 (.tmp 1), none⟩, ⟨some 42, .fld 0 (.tmp 41), none⟩,
    ⟨some 43, .load false 1 (.tmp 42), none⟩, ⟨some 44, .fld 2 (.tmp 1), none⟩, ⟨some 45, .fld 0 (.tmp 44), none⟩, ⟨some 46, .load false 1 (.tmp 45), none⟩, ⟨some 47, .mm false
    [(.tmp 43), (.tmp 46)], none⟩, ⟨some 7, .mv (.tmp 47), none⟩]) (.block 2 (.loop (.seq (.seq (.region [⟨some 48, .mv (.tmp 7), none⟩, ⟨some 49, .fld 0 (.tmp 1), none⟩, ⟨some 50,
    .fld 0 (.tmp 49), none⟩, ⟨some 51, .load false 1 (.tmp 50), none⟩, ⟨some 52, .fld 2 (.tmp 1), none⟩, ⟨some 53, .fld 0 (.tmp 52), none⟩, ⟨some 54, .load false 1 (.tmp 53), none⟩,
    ⟨some 55, .mm true [(.tmp 51), (.tmp 54)], none⟩, ⟨some 56, .bin .leq (.tmp 48) (.tmp 55), none⟩]) (.cond (.tmp 56) .skip (.exit 2))) (.seq (.block 3 (.seq (.region [⟨some 59,
    .mv (.tmp 3), none⟩, ⟨some 60, .bin .mul (.tmp 59) (.const (.int .i64 2)), none⟩, ⟨some 61, .mv (.tmp 6), none⟩, ⟨some 62, .fld 0 (.tmp 1), none⟩, ⟨some 63, .fld 1 (.tmp 62),
    none⟩, ⟨some 64, .load false 1 (.tmp 63), none⟩, ⟨some 65, .bin .sub (.tmp 61) (.tmp 64), none⟩, ⟨some 66, .bin .mul (.tmp 60) (.tmp 65), none⟩, ⟨some 67, .mv (.tmp 4), none⟩,
    ⟨some 68, .bin .mul (.tmp 67) (.const (.int .i64 2)), none⟩, ⟨some 69, .mv (.tmp 7), none⟩, ⟨some 70, .fld 0 (.tmp 1), none⟩, ⟨some 71, .fld 0 (.tmp 70), none⟩, ⟨some 72, .load
    false 1 (.tmp 71), none⟩, ⟨some 73, .bin .sub (.tmp 69) (.tmp 72), none⟩, ⟨some 74, .bin .mul (.tmp 68) (.tmp 73), none⟩, ⟨some 75, .bin .sub (.tmp 66) (.tmp 74), none⟩, ⟨some
    8, .mv (.tmp 75), none⟩]) (.seq (.region [⟨some 76, .mv (.tmp 8), none⟩, ⟨some 77, .call (.func 136) [(.tmp 76)], none⟩, ⟨some 78, .mv (.tmp 3), none⟩, ⟨some 79, .call (.func
    136) [(.tmp 78)], none⟩, ⟨some 80, .mv (.tmp 4), none⟩, ⟨some 81, .call (.func 136) [(.tmp 80)], none⟩, ⟨some 82, .bin .add (.tmp 79) (.tmp 81), none⟩, ⟨some 83, .bin .lss (.tmp
    77) (.tmp 82), none⟩, ⟨some 84, .mv (.tmp 83), none⟩, ⟨some 85, .mv (.tmp 3), some (84, false)⟩, ⟨some 86, .bin .eql (.tmp 85) (.const (.int .i64 0)), some (84, false)⟩, ⟨some
    87, .mv (.tmp 86), some (84, false)⟩, ⟨some 88, .mv (.tmp 4), some (87, true)⟩, ⟨some 89, .bin .eql (.tmp 88) (.const (.int .i64 0)), some (87, true)⟩, ⟨some 90, .pick (.tmp 87)
    (.tmp 89) (.const (.bool false)), some (84, false)⟩, ⟨some 91, .pick (.tmp 84) (.const (.bool true)) (.tmp 90), none⟩]) (.cond (.tmp 91) (.region [⟨some 92, .mv (.tmp 5), none⟩,
    ⟨some 93, .mv (.tmp 7), none⟩, ⟨some 94, .mv (.tmp 6), none⟩, ⟨some 95, .build [(.int .i64 0), (.int .i64 0)] [(0, 1, (.tmp 93)), (1, 1, (.tmp 94))], none⟩, ⟨some 96, .lit false
    49 2 [(.tmp 95)], none⟩, ⟨some 97, .append true 49 2 16 (.tmp 92) (.tmp 96), none⟩, ⟨some 5, .mv (.tmp 97), none⟩]) .skip)))) (.region [⟨some 57, .mv (.tmp 7), none⟩, ⟨some 58,
    .bin .add (.tmp 57) (.const (.int .i64 1)), none⟩, ⟨some 7, .mv (.tmp 58), none⟩]))))))) (.region [⟨some 39, .mv (.tmp 6), none⟩, ⟨some 40, .bin .add (.tmp 39) (.const (.int
    .i64 1)), none⟩, ⟨some 6, .mv (.tmp 40), none⟩])))))) (.seq (.region [⟨some 98, .mv (.tmp 5), none⟩, ⟨some 2, .mv (.tmp 98), none⟩]) .ret)))))
theorem low116 : lowF Tryz.prog [1, 97] Tryz.f116 = some (99, lc116.strip, [.tmp 2]) := by kernel_rfl
theorem fn116 : FnOk Tryz.prog 116 99 lc116 [.tmp 2] := ⟨Tryz.call116, [1, 97], _, Tryz.func116, low116⟩
/-- slices.BinarySearch[[]int,int] -/
def lc117 : LCode :=
  (.seq (.region [⟨some 4, .mv (.const (.int .i64 0)), none⟩, ⟨some 5, .mv (.const (.bool false)), none⟩]) (.seq (.region [⟨some 10, .mv (.tmp 0), none⟩, ⟨some 11, .len (.tmp 10),
    none⟩, ⟨some 6, .mv (.tmp 11), none⟩]) (.seq (.region [⟨some 12, .mv (.tmp 6), none⟩, ⟨some 7, .mv (.const (.int .i64 0)), none⟩, ⟨some 8, .mv (.tmp 12), none⟩]) (.seq (.block 0
    (.loop (.seq (.seq (.region [⟨some 13, .mv (.tmp 7), none⟩, ⟨some 14, .mv (.tmp 8), none⟩, ⟨some 15, .bin .lss (.tmp 13) (.tmp 14), none⟩]) (.cond (.tmp 15) .skip (.exit 0)))
    (.block 1 (.seq (.region [⟨some 16, .mv (.tmp 7), none⟩, ⟨some 17, .mv (.tmp 8), none⟩, ⟨some 18, .bin .add (.tmp 16) (.tmp 17), none⟩, ⟨some 19, .conv .u64 (.tmp 18), none⟩,
    ⟨some 20, .bin .shr (.tmp 19) (.const (.int .u64 1)), none⟩, ⟨some 21, .conv .i64 (.tmp 20), none⟩, ⟨some 9, .mv (.tmp 21), none⟩]) (.seq (.region [⟨some 22, .mv (.tmp 0),
    none⟩, ⟨some 23, .mv (.tmp 9), none⟩, ⟨some 24, .idx 1 (.tmp 22) (.tmp 23), none⟩, ⟨some 25, .load false 1 (.tmp 24), none⟩, ⟨some 26, .mv (.tmp 1), none⟩, ⟨some 27, .call
    (.func 147) [(.tmp 25), (.tmp 26)], none⟩]) (.cond (.tmp 27) (.region [⟨some 28, .mv (.tmp 9), none⟩, ⟨some 29, .bin .add (.tmp 28) (.const (.int .i64 1)), none⟩, ⟨some 7, .mv
    (.tmp 29), none⟩]) (.region [⟨some 30, .mv (.tmp 9), none⟩, ⟨some 8, .mv (.tmp 30), none⟩])))))))) (.seq (.region [⟨some 31, .mv (.tmp 7), none⟩, ⟨some 32, .mv (.tmp 7), none⟩,
    ⟨some 33, .mv (.tmp 6), none⟩, ⟨some 34, .bin .lss (.tmp 32) (.tmp 33), none⟩, ⟨some 35, .mv (.tmp 34), none⟩, ⟨some 36, .mv (.tmp 0), some (35, true)⟩, ⟨some 37, .mv (.tmp 7),
    some (35, true)⟩, ⟨some 38, .idx 1 (.tmp 36) (.tmp 37), some (35, true)⟩, ⟨some 39, .load false 1 (.tmp 38), some (35, true)⟩, ⟨some 40, .mv (.tmp 1), some (35, true)⟩, ⟨some
    41, .bin .eql (.tmp 39) (.tmp 40), some (35, true)⟩, ⟨some 42, .mv (.tmp 41), some (35, true)⟩, ⟨some 43, .mv (.tmp 0), some (42, false)⟩, ⟨some 44, .mv (.tmp 7), some (42,
    false)⟩, ⟨some 45, .idx 1 (.tmp 43) (.tmp 44), some (42, false)⟩, ⟨some 46, .load false 1 (.tmp 45), some (42, false)⟩, ⟨some 47, .call (.func 148) [(.tmp 46)], some (42,
    false)⟩, ⟨some 48, .mv (.tmp 47), some (42, false)⟩, ⟨some 49, .mv (.tmp 1), some (48, true)⟩, ⟨some 50, .call (.func 148) [(.tmp 49)], some (48, true)⟩, ⟨some 51, .pick (.tmp
    48) (.tmp 50) (.const (.bool false)), some (42, false)⟩, ⟨some 52, .pick (.tmp 42) (.const (.bool true)) (.tmp 51), some (35, true)⟩, ⟨some 53, .pick (.tmp 35) (.tmp 52) (.const
    (.bool false)), none⟩, ⟨some 4, .mv (.tmp 31), none⟩, ⟨some 5, .mv (.tmp 53), none⟩]) .ret)))))
theorem low117 : lowF Tryz.prog [] Tryz.f117 = some (54, lc117.strip, [.tmp 4, .tmp 5]) := by kernel_rfl
theorem fn117 : FnOk Tryz.prog 117 54 lc117 [.tmp 4, .tmp 5] := ⟨Tryz.call117, [], _, Tryz.func117, low117⟩
/-- moonpool/sonar.cell -/
def lc118 : LCode :=
  (.seq (.region [⟨some 2, .boxS (.tmp 0), none⟩, ⟨some 4, .mv (.const (.int .i64 0)), none⟩]) (.seq (.region [⟨some 5, .fld 1 (.tmp 2), none⟩, ⟨some 6, .load false 1 (.tmp 5),
    none⟩, ⟨some 7, .mv (.tmp 1), none⟩, ⟨some 8, .bin .mul (.tmp 6) (.tmp 7), none⟩, ⟨some 9, .fld 0 (.tmp 2), none⟩, ⟨some 10, .load false 1 (.tmp 9), none⟩, ⟨some 11, .bin .add
    (.tmp 8) (.tmp 10), none⟩, ⟨some 4, .mv (.tmp 11), none⟩]) .ret))
theorem low118 : lowF Tryz.prog [2] Tryz.f118 = some (12, lc118.strip, [.tmp 4]) := by kernel_rfl
theorem fn118 : FnOk Tryz.prog 118 12 lc118 [.tmp 4] := ⟨Tryz.call118, [2], _, Tryz.func118, low118⟩
/-- strings.splitSeq$1 -/
def lc122 : LCode :=
  (.seq (.seq (.region [⟨some 9, .load false 1 (.tmp 1), none⟩, ⟨some 10, .lenS (.tmp 9), none⟩, ⟨some 11, .bin .eql (.tmp 10) (.const (.int .i64 0)), none⟩]) (.cond (.tmp 11) (.seq
    (.block 0 (.loop (.seq (.seq (.region [⟨some 12, .load false 1 (.tmp 2), none⟩, ⟨some 13, .lenS (.tmp 12), none⟩, ⟨some 14, .bin .gtr (.tmp 13) (.const (.int .i64 0)), none⟩])
    (.cond (.tmp 14) .skip (.exit 0))) (.block 1 (.seq (.region [⟨some 16, .load false 1 (.tmp 2), none⟩, ⟨some 17, .call (.func 123) [(.tmp 16)], none⟩, ⟨some 15, .mv (.tmp 17),
    none⟩, ⟨some 18, .ext (.tmp 15) 0, none⟩, ⟨some 19, .ext (.tmp 15) 1, none⟩, ⟨some 5, .mv (.tmp 18), none⟩, ⟨some 6, .mv (.tmp 19), none⟩]) (.seq (.seq (.region [⟨some 20, .mv
    (.tmp 0), none⟩, ⟨some 21, .load false 1 (.tmp 2), none⟩, ⟨some 22, .mv (.tmp 6), none⟩, ⟨some 23, .slcS (.tmp 21) none (some (.tmp 22)), none⟩, ⟨some 24, .call (.tmp 20) [(.tmp
    23)], none⟩, ⟨some 25, .un .not (.tmp 24), none⟩]) (.cond (.tmp 25) .ret .skip)) (.region [⟨some 26, .load false 1 (.tmp 2), none⟩, ⟨some 27, .mv (.tmp 6), none⟩, ⟨some 28,
    .slcS (.tmp 26) (some (.tmp 27)) none, none⟩, ⟨none, .store 1 (.tmp 2) (.tmp 28), none⟩]))))))) .ret) .skip)) (.seq (.block 2 (.loop (.block 3 (.seq (.region [⟨some 29, .load
    false 1 (.tmp 2), none⟩, ⟨some 30, .load false 1 (.tmp 1), none⟩, ⟨some 31, .call (.func 124) [(.tmp 29), (.tmp 30)], none⟩, ⟨some 7, .mv (.tmp 31), none⟩]) (.seq (.seq (.region
    [⟨some 32, .mv (.tmp 7), none⟩, ⟨some 33, .bin .lss (.tmp 32) (.const (.int .i64 0)), none⟩]) (.cond (.tmp 33) (.exit 2) .skip)) (.seq (.region [⟨some 34, .load false 1 (.tmp
    2), none⟩, ⟨some 35, .mv (.tmp 7), none⟩, ⟨some 36, .load false 1 (.tmp 3), none⟩, ⟨some 37, .bin .add (.tmp 35) (.tmp 36), none⟩, ⟨some 38, .slcS (.tmp 34) none (some (.tmp
    37)), none⟩, ⟨some 8, .mv (.tmp 38), none⟩]) (.seq (.seq (.region [⟨some 39, .mv (.tmp 0), none⟩, ⟨some 40, .mv (.tmp 8), none⟩, ⟨some 41, .call (.tmp 39) [(.tmp 40)], none⟩,
    ⟨some 42, .un .not (.tmp 41), none⟩]) (.cond (.tmp 42) .ret .skip)) (.region [⟨some 43, .load false 1 (.tmp 2), none⟩, ⟨some 44, .mv (.tmp 7), none⟩, ⟨some 45, .load false 1
    (.tmp 1), none⟩, ⟨some 46, .lenS (.tmp 45), none⟩, ⟨some 47, .bin .add (.tmp 44) (.tmp 46), none⟩, ⟨some 48, .slcS (.tmp 43) (some (.tmp 47)) none, none⟩, ⟨none, .store 1 (.tmp
    2) (.tmp 48), none⟩])))))))) (.region [⟨some 49, .mv (.tmp 0), none⟩, ⟨some 50, .load false 1 (.tmp 2), none⟩, ⟨some 51, .call (.tmp 49) [(.tmp 50)], none⟩])))
theorem low122 : lowF Tryz.prog [] Tryz.f122 = some (52, lc122.strip, []) := by kernel_rfl
theorem fn122 : FnOk Tryz.prog 122 52 lc122 [] := ⟨Tryz.call122, [], _, Tryz.func122, low122⟩
/-- moonpool/sonar.counted -/
def lc127 : LCode :=
  (.seq (.region [⟨some 4, .mv (.const (.int .i64 0)), none⟩]) (.seq (.region [⟨some 5, .mv (.tmp 0), none⟩, ⟨some 6, .bin .gtr (.tmp 5) (.const (.int .i64 0)), none⟩, ⟨some 7,
    .call (.func 56) [(.tmp 6), (.const (.int .i64 10))], none⟩, ⟨some 8, .mv (.tmp 0), none⟩, ⟨some 9, .mv (.tmp 1), none⟩, ⟨some 10, .bin .leq (.tmp 8) (.tmp 9), none⟩, ⟨some 11,
    .call (.func 56) [(.tmp 10), (.const (.int .i64 8))], none⟩, ⟨some 12, .lit false 33 1 [(.tmp 7), (.tmp 11)], none⟩, ⟨some 13, .call (.func 55) [(.tmp 12)], none⟩, ⟨some 4, .mv
    (.tmp 13), none⟩]) .ret))
theorem low127 : lowF Tryz.prog [] Tryz.f127 = some (14, lc127.strip, [.tmp 4]) := by kernel_rfl
theorem fn127 : FnOk Tryz.prog 127 14 lc127 [.tmp 4] := ⟨Tryz.call127, [], _, Tryz.func127, low127⟩
/-- moonpool/sonar.each[moonpool/api.SonarDevice] -/
def lc128 : LCode :=
  (.seq (.region [⟨some 4, .mv (.const (.int .i64 0)), none⟩, ⟨some 5, .mv (.const (.int .i64 0)), none⟩]) (.seq (.seq (.region [⟨some 9, .mv (.tmp 0), none⟩, ⟨some 10, .len (.tmp
    9), none⟩, ⟨some 11, .mv (.const (.int .i64 0)), none⟩]) (.block 0 (.loop (.seq (.region [⟨some 12, .bin .lss (.tmp 11) (.tmp 10), none⟩]) (.seq (.cond (.tmp 12) .skip (.exit
    0)) (.seq (.block 1 (.seq (.region [⟨some 13, .mv (.tmp 11), none⟩, ⟨some 14, .idx 3 (.tmp 9) (.tmp 11), none⟩, ⟨some 15, .load true 3 (.tmp 14), none⟩, ⟨some 7, .alloc [(.int
    .i64 0), (.int .i64 0), (.int .i64 0)], none⟩, ⟨some 6, .mv (.tmp 13), none⟩, ⟨none, .store 3 (.tmp 7) (.tmp 15), none⟩]) (.seq (.region [⟨some 16, .mv (.tmp 1), none⟩, ⟨some
    17, .mv (.tmp 6), none⟩, ⟨some 18, .load true 3 (.tmp 7), none⟩, ⟨some 19, .call (.tmp 16) [(.tmp 17), (.tmp 18)], none⟩, ⟨some 8, .mv (.tmp 19), none⟩]) (.seq (.region [⟨some
    20, .mv (.tmp 8), none⟩, ⟨some 21, .bin .neq (.tmp 20) (.const (.int .i64 0)), none⟩]) (.cond (.tmp 21) (.seq (.region [⟨some 22, .mv (.tmp 6), none⟩, ⟨some 23, .mv (.tmp 8),
    none⟩, ⟨some 4, .mv (.tmp 22), none⟩, ⟨some 5, .mv (.tmp 23), none⟩]) .ret) .skip))))) (.region [⟨some 24, .bin .add (.tmp 11) (.const (.int .i64 1)), none⟩, ⟨some 11, .mv (.tmp
    24), none⟩]))))))) (.seq (.region [⟨some 4, .mv (.const (.int .i64 0)), none⟩, ⟨some 5, .mv (.const (.int .i64 0)), none⟩]) .ret)))
theorem low128 : lowF Tryz.prog [] Tryz.f128 = some (25, lc128.strip, [.tmp 4, .tmp 5]) := by kernel_rfl
theorem fn128 : FnOk Tryz.prog 128 25 lc128 [.tmp 4, .tmp 5] := ⟨Tryz.call128, [], _, Tryz.func128, low128⟩
/-- moonpool/sonar.CheckDevices$1 -/
def lc129 : LCode :=
  (.seq (.region [⟨some 3, .boxS (.tmp 1), none⟩, ⟨some 4, .mv (.const (.int .i64 0)), none⟩]) (.seq (.region [⟨some 6, .fld 0 (.tmp 3), none⟩, ⟨some 7, .load false 1 (.tmp 6),
    none⟩, ⟨some 8, .call (.func 69) [(.tmp 7), (.const (.int .i64 0)), (.const (.int .i64 20))], none⟩, ⟨some 9, .mv (.tmp 8), none⟩, ⟨some 10, .fld 1 (.tmp 3), some (9, true)⟩,
    ⟨some 11, .load false 1 (.tmp 10), some (9, true)⟩, ⟨some 12, .call (.func 69) [(.tmp 11), (.const (.int .i64 1)), (.const (.int .i64 10))], some (9, true)⟩, ⟨some 13, .pick
    (.tmp 9) (.tmp 12) (.const (.bool false)), none⟩, ⟨some 14, .mv (.tmp 13), none⟩, ⟨some 15, .fld 2 (.tmp 3), some (14, true)⟩, ⟨some 16, .load false 1 (.tmp 15), some (14,
    true)⟩, ⟨some 17, .call (.func 69) [(.tmp 16), (.const (.int .i64 0)), (.const (.int .i64 10))], some (14, true)⟩, ⟨some 18, .pick (.tmp 14) (.tmp 17) (.const (.bool false)),
    none⟩, ⟨some 5, .mv (.tmp 18), none⟩]) (.seq (.region [⟨some 19, .mv (.tmp 5), none⟩, ⟨some 20, .call (.func 56) [(.tmp 19), (.const (.int .i64 2))], none⟩, ⟨some 4, .mv (.tmp
    20), none⟩]) .ret)))
theorem low129 : lowF Tryz.prog [3] Tryz.f129 = some (21, lc129.strip, [.tmp 4]) := by kernel_rfl
theorem fn129 : FnOk Tryz.prog 129 21 lc129 [.tmp 4] := ⟨Tryz.call129, [3], _, Tryz.func129, low129⟩
/-- moonpool/sonar.each[moonpool/api.SonarRay] -/
def lc131 : LCode :=
  (.seq (.region [⟨some 4, .mv (.const (.int .i64 0)), none⟩, ⟨some 5, .mv (.const (.int .i64 0)), none⟩]) (.seq (.seq (.region [⟨some 9, .mv (.tmp 0), none⟩, ⟨some 10, .len (.tmp
    9), none⟩, ⟨some 11, .mv (.const (.int .i64 0)), none⟩]) (.block 0 (.loop (.seq (.region [⟨some 12, .bin .lss (.tmp 11) (.tmp 10), none⟩]) (.seq (.cond (.tmp 12) .skip (.exit
    0)) (.seq (.block 1 (.seq (.region [⟨some 13, .mv (.tmp 11), none⟩, ⟨some 14, .idx 5 (.tmp 9) (.tmp 11), none⟩, ⟨some 15, .load true 5 (.tmp 14), none⟩, ⟨some 7, .alloc [(.int
    .i64 0), (.int .i64 0), (.int .i64 0), (.int .i64 0), (.bool false)], none⟩, ⟨some 6, .mv (.tmp 13), none⟩, ⟨none, .store 5 (.tmp 7) (.tmp 15), none⟩]) (.seq (.region [⟨some 16,
    .mv (.tmp 1), none⟩, ⟨some 17, .mv (.tmp 6), none⟩, ⟨some 18, .load true 5 (.tmp 7), none⟩, ⟨some 19, .call (.tmp 16) [(.tmp 17), (.tmp 18)], none⟩, ⟨some 8, .mv (.tmp 19),
    none⟩]) (.seq (.region [⟨some 20, .mv (.tmp 8), none⟩, ⟨some 21, .bin .neq (.tmp 20) (.const (.int .i64 0)), none⟩]) (.cond (.tmp 21) (.seq (.region [⟨some 22, .mv (.tmp 6),
    none⟩, ⟨some 23, .mv (.tmp 8), none⟩, ⟨some 4, .mv (.tmp 22), none⟩, ⟨some 5, .mv (.tmp 23), none⟩]) .ret) .skip))))) (.region [⟨some 24, .bin .add (.tmp 11) (.const (.int .i64
    1)), none⟩, ⟨some 11, .mv (.tmp 24), none⟩]))))))) (.seq (.region [⟨some 4, .mv (.const (.int .i64 0)), none⟩, ⟨some 5, .mv (.const (.int .i64 0)), none⟩]) .ret)))
theorem low131 : lowF Tryz.prog [] Tryz.f131 = some (25, lc131.strip, [.tmp 4, .tmp 5]) := by kernel_rfl
theorem fn131 : FnOk Tryz.prog 131 25 lc131 [.tmp 4, .tmp 5] := ⟨Tryz.call131, [], _, Tryz.func131, low131⟩
/-- moonpool/sonar.CheckScene$1 -/
def lc132 : LCode :=
  (.seq (.region [⟨some 4, .boxS (.tmp 1), none⟩, ⟨some 5, .mv (.const (.int .i64 0)), none⟩]) (.seq (.region [⟨some 6, .load true 5 (.tmp 4), none⟩, ⟨some 7, .fld 0 (.tmp 2),
    none⟩, ⟨some 8, .load false 1 (.tmp 7), none⟩, ⟨some 9, .fld 1 (.tmp 2), none⟩, ⟨some 10, .load false 1 (.tmp 9), none⟩, ⟨some 11, .call (.func 113) [(.tmp 6), (.tmp 8), (.tmp
    10)], none⟩, ⟨some 5, .mv (.tmp 11), none⟩]) .ret))
theorem low132 : lowF Tryz.prog [4] Tryz.f132 = some (12, lc132.strip, [.tmp 5]) := by kernel_rfl
theorem fn132 : FnOk Tryz.prog 132 12 lc132 [.tmp 5] := ⟨Tryz.call132, [4], _, Tryz.func132, low132⟩
/-- moonpool/moonpoolbase.Size -/
def lc133 : LCode :=
  (.seq (.region [⟨some 2, .mv (.const (.int .i64 0)), none⟩]) (.seq (.region [⟨some 3, .mv (.tmp 0), none⟩, ⟨some 4, .mv (.tmp 0), none⟩, ⟨some 5, .un .neg (.tmp 4), none⟩, ⟨some
    6, .mm true [(.tmp 3), (.tmp 5)], none⟩, ⟨some 2, .mv (.tmp 6), none⟩]) .ret))
theorem low133 : lowF Tryz.prog [] Tryz.f133 = some (7, lc133.strip, [.tmp 2]) := by kernel_rfl
theorem fn133 : FnOk Tryz.prog 133 7 lc133 [.tmp 2] := ⟨Tryz.call133, [], _, Tryz.func133, low133⟩
/-- cmp.isNaN[int] -/
def lc134 : LCode :=
  (.seq (.region [⟨some 2, .mv (.const (.bool false)), none⟩]) (.seq (.region [⟨some 3, .mv (.tmp 0), none⟩, ⟨some 4, .mv (.tmp 0), none⟩, ⟨some 5, .bin .neq (.tmp 3) (.tmp 4),
    none⟩, ⟨some 2, .mv (.tmp 5), none⟩]) .ret))
theorem low134 : lowF Tryz.prog [] Tryz.f134 = some (6, lc134.strip, [.tmp 2]) := by kernel_rfl
theorem fn134 : FnOk Tryz.prog 134 6 lc134 [.tmp 2] := ⟨Tryz.call134, [], _, Tryz.func134, low134⟩
/-- moonpool/sonar.said$1 -/
def lc135 : LCode :=
  (.seq (.region [⟨some 7, .load true 5 (.tmp 1), none⟩, ⟨some 8, .call (.func 116) [(.tmp 7)], none⟩, ⟨some 9, .len (.tmp 8), none⟩, ⟨some 10, .mv (.const (.int .i64 0)), none⟩])
    (.block 0 (.loop (.seq (.region [⟨some 11, .bin .lss (.tmp 10) (.tmp 9), none⟩]) (.seq (.cond (.tmp 11) .skip (.exit 0)) (.seq (.block 1 (.seq (.region [⟨some 12, .idx 2 (.tmp
    8) (.tmp 10), none⟩, ⟨some 13, .load true 2 (.tmp 12), none⟩, ⟨some 5, .alloc [(.int .i64 0), (.int .i64 0)], none⟩, ⟨none, .store 2 (.tmp 5) (.tmp 13), none⟩]) (.seq (.region
    [⟨some 6, .mv (.const (.int .i64 1)), none⟩]) (.seq (.seq (.region [⟨some 14, .load true 2 (.tmp 5), none⟩, ⟨some 15, .fld 2 (.tmp 1), none⟩, ⟨some 16, .load true 2 (.tmp 15),
    none⟩, ⟨some 17, .eqA false [false, false] (.tmp 14) (.tmp 16), none⟩, ⟨some 18, .mv (.tmp 17), none⟩, ⟨some 19, .fld 4 (.tmp 1), some (18, true)⟩, ⟨some 20, .load false 1 (.tmp
    19), some (18, true)⟩, ⟨some 21, .pick (.tmp 18) (.tmp 20) (.const (.bool false)), none⟩]) (.cond (.tmp 21) (.region [⟨some 6, .mv (.const (.int .i64 2)), none⟩]) .skip)) (.seq
    (.region [⟨some 22, .mv (.tmp 0), none⟩, ⟨some 23, .load true 2 (.tmp 5), none⟩, ⟨some 24, .load false 1 (.tmp 2), none⟩, ⟨some 25, .call (.func 118) [(.tmp 23), (.tmp 24)],
    none⟩, ⟨some 26, .mv (.tmp 6), none⟩, ⟨some 27, .build [(.int .i64 0), (.int .i64 0)] [(0, 1, (.tmp 25)), (1, 1, (.tmp 26))], none⟩, ⟨some 28, .call (.tmp 22) [(.tmp 27)],
    none⟩, ⟨some 29, .un .not (.tmp 28), none⟩]) (.cond (.tmp 29) .ret .skip)))))) (.region [⟨some 30, .bin .add (.tmp 10) (.const (.int .i64 1)), none⟩, ⟨some 10, .mv (.tmp 30),
    none⟩])))))))
theorem low135 : lowF Tryz.prog [] Tryz.f135 = some (31, lc135.strip, []) := by kernel_rfl
theorem fn135 : FnOk Tryz.prog 135 31 lc135 [] := ⟨Tryz.call135, [], _, Tryz.func135, low135⟩
/-- moonpool/sonar.size -/
def lc136 : LCode :=
  (.seq (.region [⟨some 2, .mv (.const (.int .i64 0)), none⟩]) (.seq (.region [⟨some 3, .mv (.tmp 0), none⟩, ⟨some 4, .mv (.tmp 0), none⟩, ⟨some 5, .un .neg (.tmp 4), none⟩, ⟨some
    6, .mm true [(.tmp 3), (.tmp 5)], none⟩, ⟨some 2, .mv (.tmp 6), none⟩]) .ret))
theorem low136 : lowF Tryz.prog [] Tryz.f136 = some (7, lc136.strip, [.tmp 2]) := by kernel_rfl
theorem fn136 : FnOk Tryz.prog 136 7 lc136 [.tmp 2] := ⟨Tryz.call136, [], _, Tryz.func136, low136⟩
/-- slices.Clip[[]int,int] -/
def lc137 : LCode :=
  (.seq (.region [⟨some 2, .mv (.const (.slice none 0 0)), none⟩]) (.seq (.region [⟨some 3, .mv (.tmp 0), none⟩, ⟨some 4, .mv (.tmp 0), none⟩, ⟨some 5, .len (.tmp 4), none⟩, ⟨some
    6, .mv (.tmp 0), none⟩, ⟨some 7, .len (.tmp 6), none⟩, ⟨some 8, .clip 1 (.tmp 3) (.tmp 5) (.tmp 7), none⟩, ⟨some 2, .mv (.tmp 8), none⟩]) .ret))
theorem low137 : lowF Tryz.prog [] Tryz.f137 = some (9, lc137.strip, [.tmp 2]) := by kernel_rfl
theorem fn137 : FnOk Tryz.prog 137 9 lc137 [.tmp 2] := ⟨Tryz.call137, [], _, Tryz.func137, low137⟩
/-- moonpool/sonar.blind -/
def lc138 : LCode :=
  (.seq (.region [⟨some 10, .mv (.const (.bool false)), none⟩]) (.seq (.seq (.region [⟨some 11, .mv (.tmp 2), none⟩, ⟨some 12, .mv (.tmp 3), none⟩, ⟨some 13, .bin .eql (.tmp 11)
    (.tmp 12), none⟩]) (.cond (.tmp 13) (.seq (.region [⟨some 14, .mv (.tmp 0), none⟩, ⟨some 15, .mv (.tmp 2), none⟩, ⟨some 16, .idx 3 (.tmp 14) (.tmp 15), none⟩, ⟨some 17, .load
    true 3 (.tmp 16), none⟩, ⟨some 18, .call (.func 103) [(.tmp 17)], none⟩, ⟨some 19, .mv (.tmp 4), none⟩, ⟨some 20, .bin .gtr (.tmp 18) (.tmp 19), none⟩, ⟨some 10, .mv (.tmp 20),
    none⟩]) .ret) .skip)) (.seq (.regionD [⟨some 21, .mv (.tmp 0), none⟩, ⟨some 22, .mv (.tmp 2), none⟩, ⟨some 23, .idx 3 (.tmp 21) (.tmp 22), none⟩, ⟨some 24, .load true 3 (.tmp
    23), none⟩, ⟨some 25, .mv (.tmp 0), none⟩, ⟨some 26, .mv (.tmp 3), none⟩, ⟨some 27, .idx 3 (.tmp 25) (.tmp 26), none⟩, ⟨some 28, .load true 3 (.tmp 27), none⟩, ⟨some 29, .call
    (.func 102) [(.tmp 24), (.tmp 28)], none⟩, ⟨some 30, .mv (.tmp 29), none⟩, ⟨some 31, .mv (.tmp 0), some (30, true)⟩, ⟨some 32, .mv (.tmp 2), some (30, true)⟩, ⟨some 33, .idx 3
    (.tmp 31) (.tmp 32), some (30, true)⟩, ⟨some 34, .load true 3 (.tmp 33), some (30, true)⟩, ⟨some 35, .mv (.tmp 0), some (30, true)⟩, ⟨some 36, .mv (.tmp 3), some (30, true)⟩,
    ⟨some 37, .idx 3 (.tmp 35) (.tmp 36), some (30, true)⟩, ⟨some 38, .load true 3 (.tmp 37), some (30, true)⟩, ⟨some 39, .mv (.tmp 1), some (30, true)⟩, ⟨some 40, .mv (.tmp 2),
    some (30, true)⟩, ⟨some 41, .idx 1 (.tmp 39) (.tmp 40), some (30, true)⟩, ⟨some 42, .load false 1 (.tmp 41), some (30, true)⟩, ⟨some 43, .mv (.tmp 1), some (30, true)⟩, ⟨some
    44, .mv (.tmp 3), some (30, true)⟩, ⟨some 45, .idx 1 (.tmp 43) (.tmp 44), some (30, true)⟩, ⟨some 46, .load false 1 (.tmp 45), some (30, true)⟩, ⟨some 47, .mv (.tmp 4), some
    (30, true)⟩, ⟨some 48, .call (.func 161) [(.tmp 34), (.tmp 38), (.tmp 42), (.tmp 46), (.tmp 47)], some (30, true)⟩, ⟨some 49, .pick (.tmp 30) (.tmp 48) (.const (.bool false)),
    none⟩, ⟨some 10, .mv (.tmp 49), none⟩] [0, 0, 3, 7, 0, 0, 48, 112, 255, 511, 1023, 1023, 4095, 8191, 1023, 1023, 50175, 115711, 1023, 1023, 787455, 1836031, 1023, 1023,
    12583935, 29361151, 1023, 134217727, 268435455, 536870911] [0, 1, 2, 3, 4, 5, 6, 7, 8, 9, 10, 11, 12, 13, 14, 15, 16, 17, 18, 19, 20, 21, 22, 23, 24, 25, 26, 27, 28, 29])
    .ret)))
theorem low138 : lowF Tryz.prog [] Tryz.f138 = some (50, lc138.strip, [.tmp 10]) := by kernel_rfl
theorem fn138 : FnOk Tryz.prog 138 50 lc138 [.tmp 10] := ⟨Tryz.call138, [], _, Tryz.func138, low138⟩
/-- slices.ContainsFunc[[]moonpool/api.Gauss,moonpool/api.Gauss] -/
def lc139 : LCode :=
  (.seq (.region [⟨some 4, .mv (.const (.bool false)), none⟩]) (.seq (.region [⟨some 5, .mv (.tmp 0), none⟩, ⟨some 6, .mv (.tmp 1), none⟩, ⟨some 7, .call (.func 162) [(.tmp 5),
    (.tmp 6)], none⟩, ⟨some 8, .bin .geq (.tmp 7) (.const (.int .i64 0)), none⟩, ⟨some 4, .mv (.tmp 8), none⟩]) .ret))
theorem low139 : lowF Tryz.prog [] Tryz.f139 = some (9, lc139.strip, [.tmp 4]) := by kernel_rfl
theorem fn139 : FnOk Tryz.prog 139 9 lc139 [.tmp 4] := ⟨Tryz.call139, [], _, Tryz.func139, low139⟩
/-- moonpool/sonar.samplesErr$1 -/
def lc140 : LCode :=
  (.seq (.region [⟨some 1, .boxS (.tmp 0), none⟩, ⟨some 2, .mv (.const (.bool false)), none⟩]) (.seq (.region [⟨some 3, .fld 0 (.tmp 1), none⟩, ⟨some 4, .load false 1 (.tmp 3),
    none⟩, ⟨some 5, .call (.func 69) [(.tmp 4), (.const (.int .i64 (-1000))), (.const (.int .i64 1000))], none⟩, ⟨some 6, .un .not (.tmp 5), none⟩, ⟨some 7, .mv (.tmp 6), none⟩,
    ⟨some 8, .fld 1 (.tmp 1), some (7, false)⟩, ⟨some 9, .load false 1 (.tmp 8), some (7, false)⟩, ⟨some 10, .call (.func 69) [(.tmp 9), (.const (.int .i64 (-1000))), (.const (.int
    .i64 1000))], some (7, false)⟩, ⟨some 11, .un .not (.tmp 10), some (7, false)⟩, ⟨some 12, .pick (.tmp 7) (.const (.bool true)) (.tmp 11), none⟩, ⟨some 2, .mv (.tmp 12), none⟩])
    .ret))
theorem low140 : lowF Tryz.prog [1] Tryz.f140 = some (13, lc140.strip, [.tmp 2]) := by kernel_rfl
theorem fn140 : FnOk Tryz.prog 140 13 lc140 [.tmp 2] := ⟨Tryz.call140, [1], _, Tryz.func140, low140⟩
/-- moonpool/sonar.CheckLayers$1 -/
def lc141 : LCode :=
  (.seq (.region [⟨some 2, .mv (.const (.bool false)), none⟩]) (.seq (.region [⟨some 3, .mv (.tmp 0), none⟩, ⟨some 4, .call (.func 69) [(.tmp 3), (.const (.int .i64 1)), (.const
    (.int .i64 100))], none⟩, ⟨some 2, .mv (.tmp 4), none⟩]) .ret))
theorem low141 : lowF Tryz.prog [] Tryz.f141 = some (5, lc141.strip, [.tmp 2]) := by kernel_rfl
theorem fn141 : FnOk Tryz.prog 141 5 lc141 [.tmp 2] := ⟨Tryz.call141, [], _, Tryz.func141, low141⟩
/-- moonpool/sonar.each[moonpool/api.SonarLayer] -/
def lc142 : LCode :=
  (.seq (.region [⟨some 4, .mv (.const (.int .i64 0)), none⟩, ⟨some 5, .mv (.const (.int .i64 0)), none⟩]) (.seq (.seq (.region [⟨some 9, .mv (.tmp 0), none⟩, ⟨some 10, .len (.tmp
    9), none⟩, ⟨some 11, .mv (.const (.int .i64 0)), none⟩]) (.block 0 (.loop (.seq (.region [⟨some 12, .bin .lss (.tmp 11) (.tmp 10), none⟩]) (.seq (.cond (.tmp 12) .skip (.exit
    0)) (.seq (.block 1 (.seq (.region [⟨some 13, .mv (.tmp 11), none⟩, ⟨some 14, .idx 3 (.tmp 9) (.tmp 11), none⟩, ⟨some 15, .load true 3 (.tmp 14), none⟩, ⟨some 7, .alloc [(.int
    .i64 0), (.int .i64 0), (.int .i64 0)], none⟩, ⟨some 6, .mv (.tmp 13), none⟩, ⟨none, .store 3 (.tmp 7) (.tmp 15), none⟩]) (.seq (.region [⟨some 16, .mv (.tmp 1), none⟩, ⟨some
    17, .mv (.tmp 6), none⟩, ⟨some 18, .load true 3 (.tmp 7), none⟩, ⟨some 19, .call (.tmp 16) [(.tmp 17), (.tmp 18)], none⟩, ⟨some 8, .mv (.tmp 19), none⟩]) (.seq (.region [⟨some
    20, .mv (.tmp 8), none⟩, ⟨some 21, .bin .neq (.tmp 20) (.const (.int .i64 0)), none⟩]) (.cond (.tmp 21) (.seq (.region [⟨some 22, .mv (.tmp 6), none⟩, ⟨some 23, .mv (.tmp 8),
    none⟩, ⟨some 4, .mv (.tmp 22), none⟩, ⟨some 5, .mv (.tmp 23), none⟩]) .ret) .skip))))) (.region [⟨some 24, .bin .add (.tmp 11) (.const (.int .i64 1)), none⟩, ⟨some 11, .mv (.tmp
    24), none⟩]))))))) (.seq (.region [⟨some 4, .mv (.const (.int .i64 0)), none⟩, ⟨some 5, .mv (.const (.int .i64 0)), none⟩]) .ret)))
theorem low142 : lowF Tryz.prog [] Tryz.f142 = some (25, lc142.strip, [.tmp 4, .tmp 5]) := by kernel_rfl
theorem fn142 : FnOk Tryz.prog 142 25 lc142 [.tmp 4, .tmp 5] := ⟨Tryz.call142, [], _, Tryz.func142, low142⟩
/-- moonpool/sonar.CheckLayers$2 -/
def lc143 : LCode :=
  (.seq (.region [⟨some 4, .boxS (.tmp 1), none⟩, ⟨some 5, .mv (.const (.int .i64 0)), none⟩]) (.seq (.region [⟨some 7, .fld 0 (.tmp 4), none⟩, ⟨some 8, .load false 1 (.tmp 7),
    none⟩, ⟨some 9, .call (.func 69) [(.tmp 8), (.const (.int .i64 1)), (.const (.int .i64 10000))], none⟩, ⟨some 10, .mv (.tmp 9), none⟩, ⟨some 11, .load false 1 (.tmp 2), some
    (10, true)⟩, ⟨some 12, .fld 1 (.tmp 4), some (10, true)⟩, ⟨some 13, .fld 0 (.tmp 12), some (10, true)⟩, ⟨some 14, .load false 1 (.tmp 13), some (10, true)⟩, ⟨some 15, .call
    (.tmp 11) [(.tmp 14)], some (10, true)⟩, ⟨some 16, .pick (.tmp 10) (.tmp 15) (.const (.bool false)), none⟩, ⟨some 17, .mv (.tmp 16), none⟩, ⟨some 18, .load false 1 (.tmp 2),
    some (17, true)⟩, ⟨some 19, .fld 1 (.tmp 4), some (17, true)⟩, ⟨some 20, .fld 1 (.tmp 19), some (17, true)⟩, ⟨some 21, .load false 1 (.tmp 20), some (17, true)⟩, ⟨some 22, .call
    (.tmp 18) [(.tmp 21)], some (17, true)⟩, ⟨some 23, .pick (.tmp 17) (.tmp 22) (.const (.bool false)), none⟩, ⟨some 6, .mv (.tmp 23), none⟩]) (.seq (.regionD [⟨some 24, .mv (.tmp
    6), none⟩, ⟨some 25, .call (.func 56) [(.tmp 24), (.const (.int .i64 2))], none⟩, ⟨some 26, .fld 1 (.tmp 4), none⟩, ⟨some 27, .fld 0 (.tmp 26), none⟩, ⟨some 28, .load false 1
    (.tmp 27), none⟩, ⟨some 29, .fld 1 (.tmp 4), none⟩, ⟨some 30, .fld 1 (.tmp 29), none⟩, ⟨some 31, .load false 1 (.tmp 30), none⟩, ⟨some 32, .bin .leq (.tmp 28) (.tmp 31), none⟩,
    ⟨some 33, .call (.func 56) [(.tmp 32), (.const (.int .i64 9))], none⟩, ⟨some 34, .lit false 33 1 [(.tmp 25), (.tmp 33)], none⟩, ⟨some 35, .call (.func 55) [(.tmp 34)], none⟩,
    ⟨some 5, .mv (.tmp 35), none⟩] [0, 1, 0, 4, 12, 0, 32, 96, 252, 511, 1023, 2047, 4095] [0, 1, 2, 3, 4, 5, 6, 7, 8, 9, 10, 11, 12]) .ret)))
theorem low143 : lowF Tryz.prog [4] Tryz.f143 = some (36, lc143.strip, [.tmp 5]) := by kernel_rfl
theorem fn143 : FnOk Tryz.prog 143 36 lc143 [.tmp 5] := ⟨Tryz.call143, [4], _, Tryz.func143, low143⟩
/-- moonpool/sonar.divisor -/
def lc144 : LCode :=
  (.seq (.region [⟨some 4, .mv (.const (.int .i64 0)), none⟩]) (.seq (.block 0 (.loop (.seq (.seq (.region [⟨some 5, .mv (.tmp 1), none⟩, ⟨some 6, .bin .neq (.tmp 5) (.const (.int
    .i64 0)), none⟩]) (.cond (.tmp 6) .skip (.exit 0))) (.block 1 (.regionD [⟨some 7, .mv (.tmp 1), none⟩, ⟨some 8, .mv (.tmp 0), none⟩, ⟨some 9, .mv (.tmp 1), none⟩, ⟨some 10, .bin
    .rem (.tmp 8) (.tmp 9), none⟩, ⟨some 0, .mv (.tmp 7), none⟩, ⟨some 1, .mv (.tmp 10), none⟩] [0, 0, 0, 6, 3, 31] [0, 1, 2, 3, 4, 5]))))) (.seq (.region [⟨some 11, .mv (.tmp 0),
    none⟩, ⟨some 4, .mv (.tmp 11), none⟩]) .ret)))
theorem low144 : lowF Tryz.prog [] Tryz.f144 = some (12, lc144.strip, [.tmp 4]) := by kernel_rfl
theorem fn144 : FnOk Tryz.prog 144 12 lc144 [.tmp 4] := ⟨Tryz.call144, [], _, Tryz.func144, low144⟩
/-- moonpool/sonar.gridErr$1 -/
def lc145 : LCode :=
  (.seq (.region [⟨some 2, .mv (.const (.bool false)), none⟩]) (.seq (.region [⟨some 3, .mv (.tmp 0), none⟩, ⟨some 4, .call (.func 69) [(.tmp 3), (.const (.int .i64 1)), (.const
    (.int .i64 12))], none⟩, ⟨some 2, .mv (.tmp 4), none⟩]) .ret))
theorem low145 : lowF Tryz.prog [] Tryz.f145 = some (5, lc145.strip, [.tmp 2]) := by kernel_rfl
theorem fn145 : FnOk Tryz.prog 145 5 lc145 [.tmp 2] := ⟨Tryz.call145, [], _, Tryz.func145, low145⟩
/-- moonpool/sonar.isCell -/
def lc146 : LCode :=
  (.seq (.region [⟨some 3, .boxS (.tmp 0), none⟩, ⟨some 6, .mv (.const (.bool false)), none⟩]) (.seq (.region [⟨some 7, .fld 0 (.tmp 3), none⟩, ⟨some 8, .load false 1 (.tmp 7),
    none⟩, ⟨some 9, .mv (.tmp 1), none⟩, ⟨some 10, .bin .sub (.tmp 9) (.const (.int .i64 1)), none⟩, ⟨some 11, .call (.func 69) [(.tmp 8), (.const (.int .i64 0)), (.tmp 10)], none⟩,
    ⟨some 12, .mv (.tmp 11), none⟩, ⟨some 13, .fld 1 (.tmp 3), some (12, true)⟩, ⟨some 14, .load false 1 (.tmp 13), some (12, true)⟩, ⟨some 15, .mv (.tmp 2), some (12, true)⟩, ⟨some
    16, .bin .sub (.tmp 15) (.const (.int .i64 1)), some (12, true)⟩, ⟨some 17, .call (.func 69) [(.tmp 14), (.const (.int .i64 0)), (.tmp 16)], some (12, true)⟩, ⟨some 18, .pick
    (.tmp 12) (.tmp 17) (.const (.bool false)), none⟩, ⟨some 6, .mv (.tmp 18), none⟩]) .ret))
theorem low146 : lowF Tryz.prog [3] Tryz.f146 = some (19, lc146.strip, [.tmp 6]) := by kernel_rfl
theorem fn146 : FnOk Tryz.prog 146 19 lc146 [.tmp 6] := ⟨Tryz.call146, [3], _, Tryz.func146, low146⟩
/-- cmp.Less[int] -/
def lc147 : LCode :=
  (.seq (.region [⟨some 4, .mv (.const (.bool false)), none⟩]) (.seq (.region [⟨some 5, .mv (.tmp 0), none⟩, ⟨some 6, .call (.func 134) [(.tmp 5)], none⟩, ⟨some 7, .mv (.tmp 6),
    none⟩, ⟨some 8, .mv (.tmp 1), some (7, true)⟩, ⟨some 9, .call (.func 134) [(.tmp 8)], some (7, true)⟩, ⟨some 10, .un .not (.tmp 9), some (7, true)⟩, ⟨some 11, .pick (.tmp 7)
    (.tmp 10) (.const (.bool false)), none⟩, ⟨some 12, .mv (.tmp 11), none⟩, ⟨some 13, .mv (.tmp 0), some (12, false)⟩, ⟨some 14, .mv (.tmp 1), some (12, false)⟩, ⟨some 15, .bin
    .lss (.tmp 13) (.tmp 14), some (12, false)⟩, ⟨some 16, .pick (.tmp 12) (.const (.bool true)) (.tmp 15), none⟩, ⟨some 4, .mv (.tmp 16), none⟩]) .ret))
theorem low147 : lowF Tryz.prog [] Tryz.f147 = some (17, lc147.strip, [.tmp 4]) := by kernel_rfl
theorem fn147 : FnOk Tryz.prog 147 17 lc147 [.tmp 4] := ⟨Tryz.call147, [], _, Tryz.func147, low147⟩
/-- slices.isNaN[int] -/
def lc148 : LCode :=
  (.seq (.region [⟨some 2, .mv (.const (.bool false)), none⟩]) (.seq (.region [⟨some 3, .mv (.tmp 0), none⟩, ⟨some 4, .mv (.tmp 0), none⟩, ⟨some 5, .bin .neq (.tmp 3) (.tmp 4),
    none⟩, ⟨some 2, .mv (.tmp 5), none⟩]) .ret))
theorem low148 : lowF Tryz.prog [] Tryz.f148 = some (6, lc148.strip, [.tmp 2]) := by kernel_rfl
theorem fn148 : FnOk Tryz.prog 148 6 lc148 [.tmp 2] := ⟨Tryz.call148, [], _, Tryz.func148, low148⟩
/-- moonpool/sonar.meet -/
def lc161 : LCode :=
  (.seq (.region [⟨some 5, .boxS (.tmp 0), none⟩, ⟨some 6, .boxS (.tmp 1), none⟩, ⟨some 10, .mv (.const (.bool false)), none⟩]) (.seq (.region [⟨some 12, .mv (.tmp 3), none⟩, ⟨some
    13, .mv (.tmp 2), none⟩, ⟨some 14, .bin .sub (.tmp 12) (.tmp 13), none⟩, ⟨some 15, .mv (.tmp 4), none⟩, ⟨some 16, .bin .add (.tmp 14) (.tmp 15), none⟩, ⟨some 17, .mv (.tmp 4),
    none⟩, ⟨some 18, .bin .rem (.tmp 16) (.tmp 17), none⟩, ⟨some 11, .mv (.tmp 18), none⟩]) (.seq (.regionD [⟨some 19, .mv (.tmp 11), none⟩, ⟨some 20, .load true 3 (.tmp 5), none⟩,
    ⟨some 21, .call (.func 103) [(.tmp 20)], none⟩, ⟨some 22, .bin .lss (.tmp 19) (.tmp 21), none⟩, ⟨some 23, .mv (.tmp 22), none⟩, ⟨some 24, .mv (.tmp 4), some (23, false)⟩, ⟨some
    25, .mv (.tmp 11), some (23, false)⟩, ⟨some 26, .bin .sub (.tmp 24) (.tmp 25), some (23, false)⟩, ⟨some 27, .mv (.tmp 4), some (23, false)⟩, ⟨some 28, .bin .rem (.tmp 26) (.tmp
    27), some (23, false)⟩, ⟨some 29, .load true 3 (.tmp 6), some (23, false)⟩, ⟨some 30, .call (.func 103) [(.tmp 29)], some (23, false)⟩, ⟨some 31, .bin .lss (.tmp 28) (.tmp 30),
    some (23, false)⟩, ⟨some 32, .pick (.tmp 23) (.const (.bool true)) (.tmp 31), none⟩, ⟨some 10, .mv (.tmp 32), none⟩] [0, 0, 2, 7, 15, 31, 31, 127, 31, 511, 31, 1055, 4095, 8191,
    16383] [0, 1, 2, 3, 4, 5, 6, 7, 8, 9, 10, 11, 12, 13, 14]) .ret)))
theorem low161 : lowF Tryz.prog [5, 6] Tryz.f161 = some (33, lc161.strip, [.tmp 10]) := by kernel_rfl
theorem fn161 : FnOk Tryz.prog 161 33 lc161 [.tmp 10] := ⟨Tryz.call161, [5, 6], _, Tryz.func161, low161⟩
/-- slices.IndexFunc[[]moonpool/api.Gauss,moonpool/api.Gauss] -/
def lc162 : LCode :=
  (.seq (.region [⟨some 4, .mv (.const (.int .i64 0)), none⟩]) (.seq (.seq (.region [⟨some 6, .mv (.tmp 0), none⟩, ⟨some 7, .len (.tmp 6), none⟩, ⟨some 8, .mv (.const (.int .i64
    0)), none⟩]) (.block 0 (.loop (.seq (.region [⟨some 9, .bin .lss (.tmp 8) (.tmp 7), none⟩]) (.seq (.cond (.tmp 9) .skip (.exit 0)) (.seq (.block 1 (.seq (.region [⟨some 10, .mv
    (.tmp 8), none⟩, ⟨some 5, .mv (.tmp 10), none⟩]) (.seq (.region [⟨some 11, .mv (.tmp 1), none⟩, ⟨some 12, .mv (.tmp 0), none⟩, ⟨some 13, .mv (.tmp 5), none⟩, ⟨some 14, .idx 2
    (.tmp 12) (.tmp 13), none⟩, ⟨some 15, .load true 2 (.tmp 14), none⟩, ⟨some 16, .call (.tmp 11) [(.tmp 15)], none⟩]) (.cond (.tmp 16) (.seq (.region [⟨some 17, .mv (.tmp 5),
    none⟩, ⟨some 4, .mv (.tmp 17), none⟩]) .ret) .skip)))) (.region [⟨some 18, .bin .add (.tmp 8) (.const (.int .i64 1)), none⟩, ⟨some 8, .mv (.tmp 18), none⟩]))))))) (.seq (.region
    [⟨some 4, .mv (.const (.int .i64 (-1))), none⟩]) .ret)))
theorem low162 : lowF Tryz.prog [] Tryz.f162 = some (19, lc162.strip, [.tmp 4]) := by kernel_rfl
theorem fn162 : FnOk Tryz.prog 162 19 lc162 [.tmp 4] := ⟨Tryz.call162, [], _, Tryz.func162, low162⟩
end Go.Pw

set_option linter.unusedSimpArgs false
set_option linter.unusedVariables false
namespace Go.Pw
set_option maxRecDepth 2000
open Go Go.Proofs A1 A2 A3 A4
instance : Mix Tryz.prog := ⟨⟨by kernel_rfl⟩⟩
theorem C23 {n lo hi : Int} : PFD Tryz.prog 23 [vi .i64 n, vi .i64 lo, vi .i64 hi] (vbl (decide (lo ≤ n ∧ n ≤ hi))) := by
  refine pi1 fn23 ?_
  (repeat' first | (refine Owe.same ?_; first | refine Owe.o ?_ | refine Owe.mk ?_ ?_) | (refine Fork.same ?_; (first | refine fkD ?_ ?_ | refine fkN ?_ ?_ | refine fkM ?_ ?_) <;> intro h) | refine MvQ.stay ?_)
  · (refine rqK rfl ?_; (repeat' first | exact rfl | (refine qS ?_; constructor))); simp [*]
  · (refine rqK rfl ?_; (repeat' first | exact rfl | (refine qS ?_; constructor))); simp only [decide_eq_false_iff_not]; omega
theorem C69 {n lo hi : Int} : PFD Tryz.prog 69 [vi .i64 n, vi .i64 lo, vi .i64 hi] (vbl (decide (lo ≤ n ∧ n ≤ hi))) := by
  refine pi1 fn69 ?_
  (repeat' first | (refine Owe.same ?_; first | refine Owe.o ?_ | refine Owe.mk ?_ ?_) | (refine Fork.same ?_; (first | refine fkD ?_ ?_ | refine fkN ?_ ?_ | refine fkM ?_ ?_) <;> intro h) | refine MvQ.stay ?_)
  · (refine rqK rfl ?_; (repeat' first | exact rfl | (refine qS ?_; constructor))); simp [*]
  · (refine rqK rfl ?_; (repeat' first | exact rfl | (refine qS ?_; constructor))); simp only [decide_eq_false_iff_not]; omega
theorem C136 {n : Int} : (-4611686018427387904 ≤ n ∧ n ≤ 4611686018427387904) → PFD Tryz.prog 136 [vi .i64 n] (vi .i64 (max n (-n))) := fun h => by
  refine pi1 fn136 ?_
  (repeat' first | (refine Owe.same ?_; first | refine Owe.o ?_ | refine Owe.mk ?_ ?_) | (refine Fork.same ?_; (first | refine fkD ?_ ?_ | refine fkN ?_ ?_ | refine fkM ?_ ?_) <;> intro h) | refine MvQ.stay ?_)
  (refine rqK rfl ?_; (repeat' first | exact rfl | (refine qS ?_; constructor)))
theorem C56 {b : Bool} {e : Int} : PFD Tryz.prog 56 [vbl b, vi .i64 e] (vi .i64 (unb b e)) := by
  refine pi1 fn56 ?_
  (repeat' first | (refine Owe.same ?_; first | refine Owe.o ?_ | refine Owe.mk ?_ ?_) | (refine Fork.same ?_; (first | refine fkD ?_ ?_ | refine fkN ?_ ?_ | refine fkM ?_ ?_) <;> intro h) | refine MvQ.stay ?_)
  · (refine rqK rfl ?_; (repeat' first | exact rfl | (refine qS ?_; constructor))); simp [unb, *]
  · (refine rqK rfl ?_; (repeat' first | exact rfl | (refine qS ?_; constructor))); simp [unb, *]
theorem C55 {l : List Int} : l.length < 4611686018427387904 → PFD Tryz.prog 55 [.c (ints l)] (vi .i64 (fstE l)) := fun hl => by
  refine pi1 fn55 ?_
  (repeat' first | (refine Owe.same ?_; first | refine Owe.o ?_ | refine Owe.mk ?_ ?_) | (refine Fork.same ?_; (first | refine fkD ?_ ?_ | refine fkN ?_ ?_ | refine fkM ?_ ?_) <;> intro h) | refine MvQ.stay ?_)
  refine Sat.lp0 (fun k : Nat => [(7, vi .i64 k), (6, vi .i64 l.length), (5, .c (ints l))]) (fun k => k ≤ l.length ∧ fstE l = fstE (l.drop k)) (fun k => l.length - k) 0 ⟨Nat.zero_le _, rfl⟩ (by ((first | refine qen ?_ | refine qvs ?_ | refine qeq ?_ | refine qst ?_ | refine qv ?_ | refine qc ?_ | refine qe ?_ | refine qcs ?_ | skip); (repeat' first | exact rfl | (refine qS ?_; constructor)))) ?_
  intro k hk
  (repeat' first | (refine Owe.same ?_; first | refine Owe.o ?_ | refine Owe.mk ?_ ?_) | (refine Fork.same ?_; (first | refine fkD ?_ ?_ | refine fkN ?_ ?_ | refine fkM ?_ ?_) <;> intro h) | refine MvQ.stay ?_)
  · simp only [Int.toNat_natCast] at h
    (refine rqK rfl ?_; (repeat' first | exact rfl | (refine qS ?_; constructor)))
    rw [hk.2, fstE_drop l k (by omega), if_neg h, Int.toNat_natCast]
  · simp only [Int.toNat_natCast] at h
    refine again0 (k + 1) ⟨by omega, ?_⟩ (by omega) (by ((first | refine qen ?_ | refine qvs ?_ | refine qeq ?_ | refine qst ?_ | refine qv ?_ | refine qc ?_ | refine qe ?_ | refine qcs ?_ | skip); (repeat' first | exact rfl | (refine qS ?_; constructor))))
    rw [hk.2, fstE_drop l k (by omega), if_pos h]
  · (refine rqK rfl ?_; (repeat' first | exact rfl | (refine qS ?_; constructor)))
    rw [hk.2, List.drop_of_length_le (by omega)]; rfl
theorem C40 {l m : List Int} : l.length < 4611686018427387904 → PFD Tryz.prog 40 [.c (ints l), .c (ints m)] (vbl (decide (l = m))) := fun hl => by
  refine pi1 fn40 ?_
  (repeat' first | (refine Owe.same ?_; first | refine Owe.o ?_ | refine Owe.mk ?_ ?_) | (refine Fork.same ?_; (first | refine fkD ?_ ?_ | refine fkN ?_ ?_ | refine fkM ?_ ?_) <;> intro h) | refine MvQ.stay ?_)
  · (refine rqK rfl ?_; (repeat' first | exact rfl | (refine qS ?_; constructor))); simp only [decide_eq_false_iff_not]; intro he; subst he; omega
  · have hlm : l.length = m.length := by omega
    clear h
    refine Sat.lp0 (fun k : Nat => [(5, vi .i64 k), (0, .c (ints l)), (1, .c (ints m))]) (fun k => k ≤ l.length ∧ ∀ i, i < k → l.getD i 0 = m.getD i 0) (fun k => l.length - k) 0 ⟨Nat.zero_le _, fun i hi => by omega⟩ (by ((first | refine qen ?_ | refine qvs ?_ | refine qeq ?_ | refine qst ?_ | refine qv ?_ | refine qc ?_ | refine qe ?_ | refine qcs ?_ | skip); (repeat' first | exact rfl | (refine qS ?_; constructor)))) ?_
    intro k hk
    (repeat' first | (refine Owe.same ?_; first | refine Owe.o ?_ | refine Owe.mk ?_ ?_) | (refine Fork.same ?_; (first | refine fkD ?_ ?_ | refine fkN ?_ ?_ | refine fkM ?_ ?_) <;> intro h) | refine MvQ.stay ?_)
    · simp only [Int.toNat_natCast] at h
      (refine rqK rfl ?_; (repeat' first | exact rfl | (refine qS ?_; constructor))); simp only [decide_eq_false_iff_not]; intro he; subst he; exact h rfl
    · simp only [Int.toNat_natCast] at h
      refine again0 (k + 1) ⟨by omega, fun i hi => ?_⟩ (by omega) (by ((first | refine qen ?_ | refine qvs ?_ | refine qeq ?_ | refine qst ?_ | refine qv ?_ | refine qc ?_ | refine qe ?_ | refine qcs ?_ | skip); (repeat' first | exact rfl | (refine qS ?_; constructor))))
      rcases Nat.lt_succ_iff_lt_or_eq.1 hi with h3 | rfl
      · exact hk.2 i h3
      · exact h
    · (refine rqK rfl ?_; (repeat' first | exact rfl | (refine qS ?_; constructor))); simp only [decide_eq_true_eq]; exact ext_getD 0 hlm fun i hi => hk.2 i (by omega)
abbrev Pr := Int × Int
abbrev gMul (a b : Pr) : Pr := (a.1 * b.1 - a.2 * b.2, a.1 * b.2 + a.2 * b.1)
abbrev gConj (a : Pr) : Pr := (a.1, -a.2)
abbrev gAdd (a b : Pr) : Pr := (a.1 + b.1, a.2 + b.2)
abbrev gNorm (a : Pr) : Int := a.1 * a.1 + a.2 * a.2
abbrev pr (p : Pr) : V := .agg [int p.1, int p.2]
/-- Both parts are at most so great. -/
abbrev pB (n : Int) (p : Pr) : Prop := (-n ≤ p.1 ∧ p.1 ≤ n) ∧ -n ≤ p.2 ∧ p.2 ≤ n
theorem gMul_bd {a b : Pr} {A B : Int} (ha : pB A a) (hb : pB B b) : pB (2 * (A * B)) (gMul a b) := by
  have h1 := mbd ha.1 hb.1
  have h2 := mbd ha.1 hb.2
  have h3 := mbd ha.2 hb.1
  have h4 := mbd ha.2 hb.2
  refine ⟨⟨?_, ?_⟩, ?_, ?_⟩ <;> simp only [gMul] <;> omega
/-- The error of a number of items. -/
def cntE (n most : Int) : Int := fstE [unl (0 < n) 10, unl (n ≤ most) 8]
theorem C127 {n m : Int} : PFD Tryz.prog 127 [vi .i64 n, vi .i64 m] (vi .i64 (cntE n m)) := by
  refine pi1 fn127 ?_
  (repeat' first | (refine Owe.same ?_; first | refine Owe.o ?_ | refine Owe.mk ?_ ?_) | (refine Fork.same ?_; (first | refine fkD ?_ ?_ | refine fkN ?_ ?_ | refine fkM ?_ ?_) <;> intro h) | ((first | refine OpsL.same ?_ | refine OpsDL.same ?_); first | refine pK C56 rfl rfl ?_ | refine pK C55 rfl rfl ?_) | refine MvQ.stay ?_)
  (refine rqK rfl ?_; (repeat' first | exact rfl | (refine qS ?_; constructor)))
end Go.Pw

set_option linter.unusedSimpArgs false
set_option linter.unusedVariables false
namespace Go.Pw
set_option maxRecDepth 2000
open Go Go.Proofs A1 A2 A3 A4
/-- The first index from k on at which f holds; -1: there is none. -/
def idxI {α : Type} (f : α → Bool) : Int → List α → Int
  | _, [] => -1
  | k, x :: l => if f x = true then k else idxI f (k + 1) l
theorem idxI_drop {α : Type} (f : α → Bool) (d : α) (l : List α) (k : Nat) (h : k < l.length) : idxI f k (l.drop k) = if f (l.getD k d) = true then (k : Int) else idxI f ((k + 1 : Nat) : Int) (l.drop (k + 1)) := by
  rw [List.drop_eq_getElem_cons h, idxI, List.getD_eq_getElem?_getD, List.getElem?_eq_getElem h]
  rfl
theorem idxI_any {α : Type} (f : α → Bool) : ∀ (l : List α) (k : Int), 0 ≤ k → decide (0 ≤ idxI f k l) = l.any f
  | [], k, _ => rfl
  | x :: l, k, hk => by
    rw [idxI, List.any_cons]
    split
    · rename_i h; rw [h, decide_eq_true hk]; rfl
    · rename_i h; rw [idxI_any f l (k + 1) (by omega)]; simp [h]
theorem C140 {z : Pr} : PFD Tryz.prog 140 [pr z] (vbl (decide (¬ pB 1000 z))) := by
  refine pi1 fn140 ?_
  (repeat' first | (refine Owe.same ?_; first | refine Owe.o ?_ | refine Owe.mk ?_ ?_) | (refine Fork.same ?_; (first | refine fkD ?_ ?_ | refine fkN ?_ ?_ | refine fkM ?_ ?_) <;> intro h) | ((first | refine OpsL.same ?_ | refine OpsDL.same ?_); first | refine pK C69 rfl rfl ?_) | refine MvQ.stay ?_)
  all_goals ((refine rqK rfl ?_; (repeat' first | exact rfl | (refine qS ?_; constructor))); first | (simp only [decide_eq_true_eq]; omega) | (rw [Bool.eq_iff_iff]; simp only [Bool.not_eq_true', decide_eq_true_eq, decide_eq_false_iff_not]; omega))
theorem C162 {g : FuncId} {f : Pr → Bool} (hg : ∀ x : Pr, PFD Tryz.prog g [pr x] (vbl (f x))) {l : List Pr} : l.length ≤ 1000000 → PFD Tryz.prog 162 [.c (prs l), .c (.fn g [])] (vi .i64 (idxI f 0 l)) := fun hl => by
  refine pi1 fn162 ?_
  (repeat' first | (refine Owe.same ?_; first | refine Owe.o ?_ | refine Owe.mk ?_ ?_) | (refine Fork.same ?_; (first | refine fkD ?_ ?_ | refine fkN ?_ ?_ | refine fkM ?_ ?_) <;> intro h) | refine MvQ.stay ?_)
  refine Sat.lp0 (fun k : Nat => [(8, vi .i64 k), (7, vi .i64 l.length), (6, .c (prs l)), (0, .c (prs l)), (1, .c (.fn g []))]) (fun k => k ≤ l.length ∧ idxI f 0 l = idxI f k (l.drop k)) (fun k => l.length - k) 0 ⟨Nat.zero_le _, rfl⟩ (by ((first | refine qen ?_ | refine qvs ?_ | refine qeq ?_ | refine qst ?_ | refine qv ?_ | refine qc ?_ | refine qe ?_ | refine qcs ?_ | skip); (repeat' first | exact rfl | (refine qS ?_; constructor)))) ?_
  intro k hk
  (repeat' first | (refine Owe.same ?_; first | refine Owe.o ?_ | refine Owe.mk ?_ ?_) | (refine Fork.same ?_; (first | refine fkD ?_ ?_ | refine fkN ?_ ?_ | refine fkM ?_ ?_) <;> intro h) | ((first | refine OpsL.same ?_ | refine OpsDL.same ?_); first | refine pK (hg _) rfl rfl ?_) | refine MvQ.stay ?_)
  · have e := idxI_drop f (0, 0) l k (by omega)
    have h : f (l.getD k (0, 0)) = true := h
    rw [if_pos h, ← hk.2] at e
    (refine rqK rfl ?_; (repeat' first | exact rfl | (refine qS ?_; constructor))); rw [e]
  · have e := idxI_drop f (0, 0) l k (by omega)
    have h : f (l.getD k (0, 0)) = false := h
    rw [if_neg (by rw [h]; decide), ← hk.2] at e
    exact again0 (k + 1) ⟨by omega, e⟩ (by omega) (by ((first | refine qen ?_ | refine qvs ?_ | refine qeq ?_ | refine qst ?_ | refine qv ?_ | refine qc ?_ | refine qe ?_ | refine qcs ?_ | skip); (repeat' first | exact rfl | (refine qS ?_; constructor))))
  · have e : idxI f 0 l = -1 := by rw [hk.2, List.drop_of_length_le (by omega)]; rfl
    (refine rqK rfl ?_; (repeat' first | exact rfl | (refine qS ?_; constructor))); rw [e]
theorem C139 {g : FuncId} {f : Pr → Bool} (hg : ∀ x : Pr, PFD Tryz.prog g [pr x] (vbl (f x))) {l : List Pr} : l.length ≤ 1000000 → PFD Tryz.prog 139 [.c (prs l), .c (.fn g [])] (vbl (l.any f)) := fun hl => by
  refine pi1 fn139 ?_
  (repeat' first | (refine Owe.same ?_; first | refine Owe.o ?_ | refine Owe.mk ?_ ?_) | (refine Fork.same ?_; (first | refine fkD ?_ ?_ | refine fkN ?_ ?_ | refine fkM ?_ ?_) <;> intro h) | ((first | refine OpsL.same ?_ | refine OpsDL.same ?_); first | refine pK (C162 hg hl) rfl rfl ?_) | refine MvQ.stay ?_)
  (refine rqK rfl ?_; (repeat' first | exact rfl | (refine qS ?_; constructor)))
  exact idxI_any f l 0 (Int.le_refl _)
/-- The error of samples. -/
def smE (m : Int) (l : List Pr) : Int := fstE [cntE l.length m, unb (!l.any fun z => decide (¬ pB 1000 z)) 2]
theorem C106 {l : List Pr} {m : Int} : l.length ≤ 1000000 → PFD Tryz.prog 106 [.c (prs l), vi .i64 m] (vi .i64 (smE m l)) := fun hl => by
  refine pi1 fn106 ?_
  (repeat' first | (refine Owe.same ?_; first | refine Owe.o ?_ | refine Owe.mk ?_ ?_) | (refine Fork.same ?_; (first | refine fkD ?_ ?_ | refine fkN ?_ ?_ | refine fkM ?_ ?_) <;> intro h) | ((first | refine OpsL.same ?_ | refine OpsDL.same ?_); first | refine pK (C139 (fun x => C140 (z := x)) hl) rfl rfl ?_ | refine pK C127 rfl rfl ?_ | refine pK C56 rfl rfl ?_ | refine pK C55 rfl rfl ?_) | refine MvQ.stay ?_)
  (refine rqK rfl ?_; (repeat' first | exact rfl | (refine qS ?_; constructor)))
def osE (T S : List Pr) : Int := fstE [smE 8 T, smE 40 S]
theorem C68 {T S : List Pr} : (T.length ≤ 1000000 ∧ S.length ≤ 1000000) → PFD Tryz.prog 68 [.c (prs T), .c (prs S)] (vi .i64 (osE T S)) := fun ⟨hT, hS⟩ => by
  refine pi1 fn68 ?_
  (repeat' first | (refine Owe.same ?_; first | refine Owe.o ?_ | refine Owe.mk ?_ ?_) | (refine Fork.same ?_; (first | refine fkD ?_ ?_ | refine fkN ?_ ?_ | refine fkM ?_ ?_) <;> intro h) | ((first | refine OpsL.same ?_ | refine OpsDL.same ?_); first | refine pK C106 rfl rfl ?_ | refine pK C55 rfl rfl ?_) | refine MvQ.stay ?_)
  (refine rqK rfl ?_; (repeat' first | exact rfl | (refine qS ?_; constructor)))
def mt (T S : List Pr) (sh : Nat) : Nat → Pr
  | 0 => (0, 0)
  | k + 1 => gAdd (mt T S sh k) (gMul (gConj (T.getD k (0, 0))) (S.getD (sh + k) (0, 0)))
structure SmOk (T S : List Pr) (sh : Nat) : Prop where
  n : T.length ≤ 8
  m : sh + T.length ≤ S.length
  t : ∀ i, i < T.length → pB 1000 (T.getD i (0, 0))
  s : ∀ i, i < S.length → pB 1000 (S.getD i (0, 0))
theorem mt_bd {T S : List Pr} {sh : Nat} (h : SmOk T S sh) : ∀ k, k ≤ T.length → pB (k * 2000000) (mt T S sh k)
  | 0, _ => by refine ⟨⟨?_, ?_⟩, ?_, ?_⟩ <;> simp [mt]
  | k + 1, hk => by
    have ih := mt_bd h k (by omega)
    have h1 := h.t k (by omega)
    have h2 := h.s (sh + k) (by have := h.m; omega)
    have h3 := gMul_bd (a := gConj (T.getD k (0, 0))) (A := 1000) (B := 1000) (by refine ⟨h1.1, ?_, ?_⟩ <;> simp only [gConj] <;> omega) h2
    simp only [gMul, gConj] at h3
    simp only [mt]
    refine ⟨⟨?_, ?_⟩, ?_, ?_⟩ <;> simp only [gAdd, gMul, gConj] <;> omega
theorem C70 {T S : List Pr} {sh n : Nat} : (SmOk T S sh ∧ T.length ≤ n) → PFD Tryz.prog 70 [.c (prs T), .c (.d (.sl 2 n fun i => r2 (S.getD (sh + i) (0, 0))))] (.c (.cx (mt T S sh T.length).1 (mt T S sh T.length).2)) := fun ⟨hO, hn⟩ => by
  have hn8 := hO.n
  refine pi1 fn70 ?_
  (repeat' first | (refine Owe.same ?_; first | refine Owe.o ?_ | refine Owe.mk ?_ ?_) | (refine Fork.same ?_; (first | refine fkD ?_ ?_ | refine fkN ?_ ?_ | refine fkM ?_ ?_) <;> intro h) | refine MvQ.stay ?_)
  refine Sat.lp0 (fun k : Nat => [(10, vi .i64 k), (9, vi .i64 T.length), (8, .c (prs T)), (1, .c (.d (.sl 2 n fun i => r2 (S.getD (sh + i) (0, 0))))), (5, .c (.cx (mt T S sh k).1 (mt T S sh k).2))]) (fun k => k ≤ T.length) (fun k => T.length - k) 0 (Nat.zero_le _) (by ((first | refine qen ?_ | refine qvs ?_ | refine qeq ?_ | refine qst ?_ | refine qv ?_ | refine qc ?_ | refine qe ?_ | refine qcs ?_ | skip); (repeat' first | exact rfl | (refine qS ?_; constructor)))) ?_
  intro k hk
  have hb := mt_bd hO k hk
  refine Fork.dec (fun hlt => ?_) (fun hlt => ?_)
  · have hlt : k < T.length := by omega
    have h1 := hO.t k hlt
    have h2 := hO.s (sh + k) (by have := hO.m; omega)
    have m1 := mbd h1.1 h2.1
    have m2 := mbd (a := -(T.getD k (0, 0)).2) (A := 1000) (by omega) h2.2
    have m3 := mbd h1.1 h2.2
    have m4 := mbd (a := -(T.getD k (0, 0)).2) (A := 1000) (by omega) h2.1
    (repeat' first | (refine Owe.same ?_; first | refine Owe.o ?_ | refine Owe.mk ?_ ?_) | (refine Fork.same ?_; (first | refine fkD ?_ ?_ | refine fkN ?_ ?_ | refine fkM ?_ ?_) <;> intro h) | refine MvQ.stay ?_)
    exact again0 (k + 1) hlt (by omega) (by ((first | refine qen ?_ | refine qvs ?_ | refine qeq ?_ | refine qst ?_ | refine qv ?_ | refine qc ?_ | refine qe ?_ | refine qcs ?_ | skip); (repeat' first | exact rfl | (refine qS ?_; constructor))))
  · (repeat' first | (refine Owe.same ?_; first | refine Owe.o ?_ | refine Owe.mk ?_ ?_) | (refine Fork.same ?_; (first | refine fkD ?_ ?_ | refine fkN ?_ ?_ | refine fkM ?_ ?_) <;> intro h) | refine MvQ.stay ?_)
    have : k = T.length := by omega
    subst this
    (refine rqK rfl ?_; (repeat' first | exact rfl | (refine qS ?_; constructor)))
/-- The parts of a match, as numbers. -/
theorem mt_R {T S : List Pr} {sh : Nat} (h : SmOk T S sh) : pB 16000000 (mt T S sh T.length) := by
  have h1 := mt_bd h T.length (Nat.le_refl _)
  have h2 := h.n
  refine ⟨⟨?_, ?_⟩, ?_, ?_⟩ <;> omega
def mxL (a : Int) : List Int → Int
  | [] => a
  | x :: l => mxL (max a x) l
theorem mxL_drop (a : Int) (l : List Int) (k : Nat) (h : k < l.length) : mxL a (l.drop k) = mxL (max a (l.getD k 0)) (l.drop (k + 1)) := by
  rw [List.drop_eq_getElem_cons h, mxL, List.getD_eq_getElem?_getD, List.getElem?_eq_getElem h]
  rfl
theorem mxL_le {l : List Int} : ∀ {a b : Int}, mxL a l ≤ b ↔ a ≤ b ∧ ∀ x ∈ l, x ≤ b := by
  induction l with
  | nil => intro a b; simp [mxL]
  | cons x l ih => intro a b; rw [mxL, ih]; simp only [List.mem_cons, forall_eq_or_imp]; constructor <;> intro h <;> refine ⟨by omega, ?_⟩ <;> first | exact h.2 | exact ⟨by omega, h.2⟩ | exact h.2.2
theorem le_mxL {l : List Int} : ∀ {a : Int}, a ≤ mxL a l := by
  induction l with
  | nil => intro a; exact Int.le_refl _
  | cons x l ih => intro a; rw [mxL]; exact Int.le_trans (by omega) ih
theorem C73 {l : List Int} : (0 < l.length ∧ l.length ≤ 1000000) → PFD Tryz.prog 73 [.c (ints l)] (vi .i64 (mxL (l.getD 0 0) (l.drop 1))) := fun ⟨h0, hl⟩ => by
  refine pi1 fn73 ?_
  (repeat' first | (refine Owe.same ?_; first | refine Owe.o ?_ | refine Owe.mk ?_ ?_) | (refine Fork.same ?_; (first | refine fkY ?_ | refine fkF ?_ | ((first | refine fkD ?_ ?_ | refine fkN ?_ ?_ | refine fkM ?_ ?_) <;> intro h))) | ((first | refine OpsL.same ?_ | refine OpsDL.same ?_); first | refine oK C69 rfl rfl rfl ?_) | refine MvQ.stay ?_)
  refine Sat.lp0 (fun p : Nat × Int => [(4, vi .i64 (p.1 : Int)), (0, .c (ints l)), (3, vi .i64 p.2)]) (fun p => p.1 ≤ l.length ∧ mxL (l.getD 0 0) (l.drop 1) = mxL p.2 (l.drop p.1)) (fun p => l.length - p.1) (1, l.getD 0 0) ⟨by omega, rfl⟩ (by ((first | refine qen ?_ | refine qvs ?_ | refine qeq ?_ | refine qst ?_ | refine qv ?_ | refine qc ?_ | refine qe ?_ | refine qcs ?_ | skip); (repeat' first | exact rfl | (refine qS ?_; constructor)))) ?_
  intro ⟨k, a⟩ ⟨hk, he⟩
  simp only at hk he
  (repeat' first | (refine Owe.same ?_; first | refine Owe.o ?_ | refine Owe.mk ?_ ?_) | (refine Fork.same ?_; (first | refine fkD ?_ ?_ | refine fkN ?_ ?_ | refine fkM ?_ ?_) <;> intro h) | refine MvQ.stay ?_)
  · refine again0 (k + 1, max a (l.getD k 0)) ⟨by simp only; omega, ?_⟩ (by simp only; omega) (by ((first | refine qen ?_ | refine qvs ?_ | refine qeq ?_ | refine qst ?_ | refine qv ?_ | refine qc ?_ | refine qe ?_ | refine qcs ?_ | skip); (repeat' first | exact rfl | (refine qS ?_; constructor))))
    rw [he]; exact mxL_drop a l k (by omega)
  · (refine rqK rfl ?_; (repeat' first | exact rfl | (refine qS ?_; constructor)))
    rw [he, List.drop_of_length_le (by omega)]; rfl
/-- Whether an index of a slice of numbers holds a number that is at least so great. -/
theorem C72 {m n : Int} : PFD Tryz.prog 72 [vi .i64 m, .c (.rp [dI n])] (vbl (decide (n ≤ m))) := by
  refine pi1 fn72 ?_
  (repeat' first | (refine Owe.same ?_; first | refine Owe.o ?_ | refine Owe.mk ?_ ?_) | (refine Fork.same ?_; (first | refine fkD ?_ ?_ | refine fkN ?_ ?_ | refine fkM ?_ ?_) <;> intro h) | refine MvQ.stay ?_)
  (refine rqK rfl ?_; (repeat' first | exact rfl | (refine qS ?_; constructor)))
theorem C107 {g : FuncId} {rows : List (List D)} {f : Int → Bool} (hg : ∀ x : Int, PFD Tryz.prog g (vi .i64 x :: rows.map fun r => .c (.rp r)) (vbl (f x))) {l : List Int} : l.length ≤ 1000000 → PFD Tryz.prog 107 [.c (ints l), .c (.fnR g rows)] (vi .i64 (idxI f 0 l)) := fun hl => by
  refine pi1 fn107 ?_
  (repeat' first | (refine Owe.same ?_; first | refine Owe.o ?_ | refine Owe.mk ?_ ?_) | (refine Fork.same ?_; (first | refine fkD ?_ ?_ | refine fkN ?_ ?_ | refine fkM ?_ ?_) <;> intro h) | refine MvQ.stay ?_)
  refine Sat.lp0 (fun k : Nat => [(8, vi .i64 k), (7, vi .i64 l.length), (6, .c (ints l)), (0, .c (ints l)), (1, .c (.fnR g rows))]) (fun k => k ≤ l.length ∧ idxI f 0 l = idxI f k (l.drop k)) (fun k => l.length - k) 0 ⟨Nat.zero_le _, rfl⟩ (by ((first | refine qen ?_ | refine qvs ?_ | refine qeq ?_ | refine qst ?_ | refine qv ?_ | refine qc ?_ | refine qe ?_ | refine qcs ?_ | skip); (repeat' first | exact rfl | (refine qS ?_; constructor)))) ?_
  intro k hk
  (repeat' first | (refine Owe.same ?_; first | refine Owe.o ?_ | refine Owe.mk ?_ ?_) | (refine Fork.same ?_; (first | refine fkD ?_ ?_ | refine fkN ?_ ?_ | refine fkM ?_ ?_) <;> intro h) | ((first | refine OpsL.same ?_ | refine OpsDL.same ?_); first | refine pR (hg _) rfl rfl ?_) | refine MvQ.stay ?_)
  · have e := idxI_drop f 0 l k (by omega)
    have h : f (l.getD k 0) = true := h
    rw [if_pos h, ← hk.2] at e
    (refine rqK rfl ?_; (repeat' first | exact rfl | (refine qS ?_; constructor))); rw [e]
  · have e := idxI_drop f 0 l k (by omega)
    have h : f (l.getD k 0) = false := h
    rw [if_neg (by rw [h]; decide), ← hk.2] at e
    exact again0 (k + 1) ⟨by omega, e⟩ (by omega) (by ((first | refine qen ?_ | refine qvs ?_ | refine qeq ?_ | refine qst ?_ | refine qv ?_ | refine qc ?_ | refine qe ?_ | refine qcs ?_ | skip); (repeat' first | exact rfl | (refine qS ?_; constructor))))
  · have e : idxI f 0 l = -1 := by rw [hk.2, List.drop_of_length_le (by omega)]; rfl
    (refine rqK rfl ?_; (repeat' first | exact rfl | (refine qS ?_; constructor))); rw [e]
theorem C71 {g : FuncId} {rows : List (List D)} {f : Int → Bool} (hg : ∀ x : Int, PFD Tryz.prog g (vi .i64 x :: rows.map fun r => .c (.rp r)) (vbl (f x))) {l : List Int} : l.length ≤ 1000000 → PFD Tryz.prog 71 [.c (ints l), .c (.fnR g rows)] (vbl (l.any f)) := fun hl => by
  refine pi1 fn71 ?_
  (repeat' first | (refine Owe.same ?_; first | refine Owe.o ?_ | refine Owe.mk ?_ ?_) | (refine Fork.same ?_; (first | refine fkD ?_ ?_ | refine fkN ?_ ?_ | refine fkM ?_ ?_) <;> intro h) | ((first | refine OpsL.same ?_ | refine OpsDL.same ?_); first | refine pK (C107 hg hl) rfl rfl ?_) | refine MvQ.stay ?_)
  (refine rqK rfl ?_; (repeat' first | exact rfl | (refine qS ?_; constructor)))
  exact idxI_any f l 0 (Int.le_refl _)
end Go.Pw

set_option linter.unusedSimpArgs false
set_option linter.unusedVariables false
namespace Go.Pw
set_option maxRecDepth 2000
open Go Go.Proofs A1 A2 A3 A4
theorem fst0 {a : Int} {l : List Int} : fstE (a :: l) = 0 ↔ a = 0 ∧ fstE l = 0 := by
  simp only [fstE]
  constructor
  · intro h
    split at h
    · exact ⟨by assumption, h⟩
    · exact absurd h (by assumption)
  · rintro ⟨rfl, h⟩; rw [if_pos rfl]; exact h
theorem unl0 {p : Prop} [Decidable p] {e : Int} (he : e ≠ 0) : unl p e = 0 ↔ p := by rw [unl_eq]; split <;> simp_all
theorem unb0 {b : Bool} {e : Int} (he : e ≠ 0) : unb b e = 0 ↔ b = true := by cases b <;> simp [unb, he]
theorem fst_nil : fstE [] = 0 := rfl
theorem smE_ok {m : Int} {l : List Pr} : smE m l = 0 ↔ (0 < l.length ∧ (l.length : Int) ≤ m) ∧ ∀ i, i < l.length → pB 1000 (l.getD i (0, 0)) := by
  simp only [smE, cntE, fst0, fst_nil, and_true, unl0 (show (10 : Int) ≠ 0 by decide), unl0 (show (8 : Int) ≠ 0 by decide), unb0 (show (2 : Int) ≠ 0 by decide), Bool.not_eq_true', List.any_eq_false, decide_eq_true_eq, Decidable.not_not]
  constructor
  · rintro ⟨⟨h1, h2⟩, h3⟩
    exact ⟨⟨by omega, h2⟩, fun i hi => h3 _ (getD_mem _ hi)⟩
  · rintro ⟨⟨h1, h2⟩, h3⟩
    refine ⟨⟨by omega, h2⟩, fun x hx => ?_⟩
    obtain ⟨i, hi, rfl⟩ := List.getElem_of_mem hx
    have := h3 i hi
    rwa [List.getD_eq_getElem?_getD, List.getElem?_eq_getElem hi] at this
theorem osE_ok {T S : List Pr} {sh : Nat} (h : osE T S = 0) (hs : sh + T.length ≤ S.length) : SmOk T S sh ∧ 0 < T.length ∧ S.length ≤ 40 := by
  rw [osE, fst0, fst0] at h
  obtain ⟨h1, h2, _⟩ := h
  rw [smE_ok] at h1 h2
  exact ⟨⟨by omega, hs, h1.2, h2.2⟩, by omega, by omega⟩
/-- The power of a match. -/
abbrev pwF (T S : List Pr) (s : Nat) : Int := gNorm (mt T S s T.length)
def isEB (lim : Int) (p : Nat → Int) (m n s : Nat) : Bool :=
  decide (lim ≤ p s) && (List.range n).all fun o => !(decide (o < s ∧ s - o < m ∧ p s ≤ p o) || decide (s < o ∧ o - s < m ∧ p s < p o))
theorem isEB_iff {lim : Int} {p : Nat → Int} {m n s : Nat} : isEB lim p m n s = true ↔ lim ≤ p s ∧ ∀ o, o < n → ¬ (o < s ∧ s - o < m ∧ p s ≤ p o) ∧ ¬ (s < o ∧ o - s < m ∧ p s < p o) := by
  simp only [isEB, Bool.and_eq_true, decide_eq_true_eq, List.all_eq_true, List.mem_range, Bool.not_eq_true', Bool.or_eq_false_iff, decide_eq_false_iff_not]
abbrev pwL (T S : List Pr) (n : Nat) : List Int := (List.range n).map (pwF T S)
theorem pwL_get {T S : List Pr} {n i : Nat} (h : i < n) : (pwL T S n).getD i 0 = pwF T S i := by
  simp [pwL, List.getD_eq_getElem?_getD, h]
/-- The test of a shift, as the program makes it. -/
theorem isEB_prog {lim : Int} {T S : List Pr} {m n s : Nat} (hm : 0 < m) (hs : s < n) :
    (decide (lim ≤ pwF T S s) && !(((pwL T S n).take s).drop (s + 1 - m)).any (fun x => decide (pwF T S s ≤ x)) && decide (mxL ((((pwL T S n).take (min n (s + m))).drop s).getD 0 0) ((((pwL T S n).take (min n (s + m))).drop s).drop 1) = pwF T S s)) = isEB lim (pwF T S) m n s := by
  have hlen : (pwL T S n).length = n := by simp [pwL]
  have hb : (((pwL T S n).take s).drop (s + 1 - m)).any (fun x => decide (pwF T S s ≤ x)) = false ↔ ∀ o, o < n → ¬ (o < s ∧ s - o < m ∧ pwF T S s ≤ pwF T S o) := by
    simp only [List.any_eq_false, decide_eq_true_eq]
    constructor
    · rintro h o ho ⟨h1, h2, h3⟩
      refine h (pwF T S o) ?_ h3
      refine List.mem_iff_getElem?.2 ⟨o - (s + 1 - m), ?_⟩
      rw [List.getElem?_drop, List.getElem?_take, if_pos (by omega), show s + 1 - m + (o - (s + 1 - m)) = o by omega]
      simp [pwL, ho]
    · intro h x hx h3
      obtain ⟨i, hi⟩ := List.mem_iff_getElem?.1 hx
      rw [List.getElem?_drop, List.getElem?_take] at hi
      split at hi
      · rename_i hlt
        simp only [pwL, List.getElem?_map, List.getElem?_range (show s + 1 - m + i < n by omega), Option.map_some, Option.some.injEq] at hi
        subst hi
        exact h (s + 1 - m + i) (by omega) ⟨by omega, by omega, h3⟩
      · cases hi
  have h0 : (((pwL T S n).take (min n (s + m))).drop s).getD 0 0 = pwF T S s := by
    rw [getD_drop', getD_take' (by omega), Nat.add_zero, pwL_get hs]
  have hmx : mxL ((((pwL T S n).take (min n (s + m))).drop s).getD 0 0) ((((pwL T S n).take (min n (s + m))).drop s).drop 1) = pwF T S s ↔ ∀ o, o < n → ¬ (s < o ∧ o - s < m ∧ pwF T S s < pwF T S o) := by
    rw [h0]
    have hle : mxL (pwF T S s) ((((pwL T S n).take (min n (s + m))).drop s).drop 1) = pwF T S s ↔ mxL (pwF T S s) ((((pwL T S n).take (min n (s + m))).drop s).drop 1) ≤ pwF T S s :=
      ⟨fun h => Int.le_of_eq h, fun h => Int.le_antisymm h le_mxL⟩
    rw [hle, mxL_le]
    constructor
    · rintro ⟨_, h⟩ o ho ⟨h1, h2, h3⟩
      have := h (pwF T S o) (List.mem_iff_getElem?.2 ⟨o - s - 1, by
        rw [List.getElem?_drop, List.getElem?_drop, List.getElem?_take, if_pos (by omega), show s + (1 + (o - s - 1)) = o by omega]
        simp [pwL, ho]⟩)
      omega
    · intro h
      refine ⟨Int.le_refl _, fun x hx => ?_⟩
      obtain ⟨i, hi⟩ := List.mem_iff_getElem?.1 hx
      rw [List.getElem?_drop, List.getElem?_drop, List.getElem?_take] at hi
      split at hi
      · rename_i hlt
        simp only [pwL, List.getElem?_map, List.getElem?_range (show s + (1 + i) < n by omega), Option.map_some, Option.some.injEq] at hi
        subst hi
        have := h (s + (1 + i)) (by omega)
        omega
      · cases hi
  rw [Bool.eq_iff_iff, isEB_iff]
  simp only [Bool.and_eq_true, decide_eq_true_eq, Bool.not_eq_true', hb, hmx]
  constructor
  · rintro ⟨⟨h1, h2⟩, h3⟩; exact ⟨h1, fun o ho => ⟨h2 o ho, h3 o ho⟩⟩
  · rintro ⟨h1, h2⟩; exact ⟨⟨h1, fun o ho => (h2 o ho).1⟩, fun o ho => (h2 o ho).2⟩
end Go.Pw

set_option linter.unusedSimpArgs false
set_option linter.unusedVariables false
namespace Go.Pw
set_option maxRecDepth 2000
open Go Go.Proofs A1 A2 A3 A4
def ecE (T S : List Pr) (lim : Int) : Int := fstE [osE T S, unl ((T.length : Int) ≤ S.length) 10, unl (1 ≤ lim ∧ lim ≤ 1000000000000000) 2]
theorem ecE_ok {T S : List Pr} {lim : Int} (h : ecE T S lim = 0) : T.length ≤ S.length ∧ 0 < T.length ∧ S.length ≤ 40 ∧ (1 ≤ lim ∧ lim ≤ 1000000000000000) ∧ ∀ s, s + T.length ≤ S.length → SmOk T S s := by
  rw [ecE, fst0, fst0, fst0] at h
  obtain ⟨h1, h2, h3, _⟩ := h
  rw [unl0 (by decide)] at h2 h3
  obtain ⟨_, h5, h6⟩ := osE_ok (sh := 0) h1 (by omega)
  exact ⟨by omega, h5, h6, h3, fun s hs => (osE_ok h1 hs).1⟩
/-- All echoes. -/
abbrev ecL (T S : List Pr) (lim : Int) : List Int := fltL (isEB lim (pwF T S) T.length (S.length - T.length + 1)) (S.length - T.length + 1)
theorem pwL_succ (T S : List Pr) (n : Nat) : pwL T S (n + 1) = pwL T S n ++ [pwF T S n] := by simp [pwL, List.range_succ]
theorem pwL_len (T S : List Pr) (n : Nat) : (pwL T S n).length = n := by simp [pwL]
set_option maxHeartbeats 1000000 in
theorem C32 {T S : List Pr} {lim : Int} : (T.length ≤ 1000000 ∧ S.length ≤ 1000000) → PFD Tryz.prog 32 [.c (prs T), .c (prs S), vi .i64 lim] (.tup [.c (ints (if ecE T S lim = 0 then ecL T S lim else [])), vi .i64 (ecE T S lim)]) := fun ⟨hT, hS⟩ => by
  by_cases h0 : ecE T S lim = 0
  · rw [if_pos h0]
    obtain ⟨hTS, hT0, hS40, hlim, hO⟩ := ecE_ok h0
    obtain ⟨n, hn⟩ : ∃ n, S.length - T.length + 1 = n := ⟨_, rfl⟩
    rw [show ecL T S lim = fltL (isEB lim (pwF T S) T.length n) n by rw [ecL, hn]]
    refine pi2 fn32 ?_
    (repeat' first | (refine Owe.same ?_; first | refine Owe.o ?_ | refine Owe.mk ?_ ?_) | (refine Fork.same ?_; (first | refine fkD ?_ ?_ | refine fkN ?_ ?_ | refine fkM ?_ ?_) <;> intro h) | ((first | refine OpsL.same ?_ | refine OpsDL.same ?_); first | refine pK C68 rfl rfl ?_ | refine pK C69 rfl rfl ?_ | refine pK C56 rfl rfl ?_ | refine pK C55 rfl rfl ?_) | refine MvQ.stay ?_)
    · exact absurd h0 h
    refine Sat.nilS 9 3 1 (fun i => r1 (([] : List Int).getD i 0)) rfl ?_
    refine Sat.lp (fun k : Nat => ⟨[(42, vi .i64 k), (41, vi .i64 (n : Int)), (0, .c (prs T)), (1, .c (prs S)), (2, vi .i64 lim), (9, .c (.ms 0 (pwL T S k).length))], [(0, rowv 3 1 r1 0 (pwL T S k))], 1⟩)
      (fun k => k ≤ n) (fun k => n - k) 0 [0] (Nat.zero_le _) ?_ ?_
    · (refine qis ?_ ?_ <;> (repeat' first | exact rfl | (refine qS ?_; constructor)))
      omega
    · intro k hk
      have hlen := pwL_len T S k
      refine Fork.dec (fun hlt => ?_) (fun hlt => ?_)
      · have hlt : k < n := by omega
        have hOk := hO k (by omega)
        have c51 := C70 (T := T) (S := S) (sh := k) (n := S.length - k) ⟨hOk, by omega⟩
        have hR := mt_R hOk
        have q1 := mbd hR.1 hR.1
        have q2 := mbd hR.2 hR.2
        (repeat' first | (refine Owe.same ?_; first | refine Owe.o ?_ | refine Owe.mk ?_ ?_) | (refine Fork.same ?_; (first | refine fkD ?_ ?_ | refine fkN ?_ ?_ | refine fkM ?_ ?_) <;> intro h) | ((first | refine OpsL.same ?_ | refine OpsDL.same ?_); first | refine pK c51 rfl rfl ?_) | refine MvQ.stay ?_)
        refine again (k + 1) [1] hlt (by omega) ?_
        (refine qis ?_ ?_ <;> (repeat' first | exact rfl | (refine qS ?_; constructor)))
        · rw [pwL_len, pwL_len]; rfl
        · exact pwL_succ T S k
      · have : k = n := by omega
        subst this
        (repeat' first | (refine Owe.same ?_; first | refine Owe.o ?_ | refine Owe.mk ?_ ?_) | (refine Fork.same ?_; (first | refine fkD ?_ ?_ | refine fkN ?_ ?_ | refine fkM ?_ ?_) <;> intro h) | refine MvQ.stay ?_)
        refine SatL.frz 9 _ rfl rfl (Nat.le_refl _) ?_
        refine SatL.frz 67 _ rfl rfl (Nat.le_refl _) ?_
        refine Sat.nilS 14 3 1 (fun i => r1 (([] : List Int).getD i 0)) rfl ?_
        refine Sat.lp (fun j : Nat => ⟨[(69, vi .i64 j), (68, vi .i64 (k : Int)), (67, .c (ints (pwL T S k))), (9, .c (ints (pwL T S k))), (0, .c (prs T)), (2, vi .i64 lim), (14, .c (.ms 0 (fltL (isEB lim (pwF T S) T.length k) j).length))], [(0, rowv 3 1 r1 0 (fltL (isEB lim (pwF T S) T.length k) j))], 1⟩)
          (fun j => j ≤ k) (fun j => k - j) 0 [1] (Nat.zero_le _) ?_ ?_
        · (refine qis ?_ ?_ <;> (repeat' first | exact rfl | (refine qS ?_; constructor)))
          omega
        · intro j hj
          have hfl := fltL_len (isEB lim (pwF T S) T.length k) j
          have hfs := fltL_succ (isEB lim (pwF T S) T.length k) j
          refine Fork.dec (fun hlt => ?_) (fun hlt => ?_)
          · have hlt : j < k := by omega
            have e := isEB_prog (lim := lim) (T := T) (S := S) hT0 hlt
            have hg := pwL_get (T := T) (S := S) hlt
            have c52 : ∀ l : List Int, l.length ≤ 1000000 → ∀ p : Int, PFD Tryz.prog 71 [.c (ints l), .c (.fnR 72 [[dI p]])] (vbl (l.any fun x => decide (p ≤ x))) := fun l hl p => C71 (fun x => C72 (m := x) (n := p)) hl
            (repeat' first | (refine Owe.same ?_; first | refine Owe.o ?_ | refine Owe.mk ?_ ?_) | (refine Fork.same ?_; (first | refine fkD ?_ ?_ | refine fkN ?_ ?_ | refine fkM ?_ ?_) <;> intro h) | refine MvQ.stay ?_)
            refine SatL.as 17 (.c (ints (((pwL T S k).take j).drop (j + 1 - T.length)))) ?_ ?_
            · have e1 : (Int.toNat (max 0 ((j : Int) - T.length + 1))) = j + 1 - T.length := by omega
              have := VEq.cut (s := 1) (row := r1) (d := (0 : Int)) (l := pwL T S k) (m := ((pwL T S k).take j).drop (j + 1 - T.length)) (k := Int.toNat (max 0 ((j : Int) - T.length + 1))) (j := (j : Int).toNat) (by omega) (by omega) (by rw [e1]; rfl)
              exact this
            refine SatL.as 18 (.c (ints (((pwL T S k).take (min k (j + T.length))).drop j))) ?_ ?_
            · have e1 : (Int.toNat (min ((pwL T S k).length : Int) ((j : Int) + T.length))) = min k (j + T.length) := by omega
              have := VEq.cut (s := 1) (row := r1) (d := (0 : Int)) (l := pwL T S k) (m := ((pwL T S k).take (min k (j + T.length))).drop j) (k := (j : Int).toNat) (j := Int.toNat (min ((pwL T S k).length : Int) ((j : Int) + T.length))) (by omega) (by omega) (by rw [e1]; rfl)
              exact this
            refine SatL.frB 1 [16] rfl rfl ?_
            refine SatL.go ?_
            have c52' := c52 (((pwL T S k).take j).drop (j + 1 - T.length)) (by simp; omega) ((pwL T S k).getD (j : Int).toNat 0)
            have c54' := C73 (l := ((pwL T S k).take (min k (j + T.length))).drop j) (by simp only [List.length_drop, List.length_take]; omega)
            have hg' : (pwL T S k).getD (j : Int).toNat 0 = pwF T S j := hg
            (repeat' first | (refine Owe.same ?_; first | refine Owe.o ?_ | refine Owe.mk ?_ ?_) | (refine Fork.same ?_; (first | refine fkD ?_ ?_ | refine fkN ?_ ?_ | refine fkM ?_ ?_) <;> intro h) | ((first | refine OpsL.same ?_ | refine OpsDL.same ?_); first | refine pK c52' rfl rfl ?_ | refine pK c54' rfl rfl ?_) | refine MvQ.stay ?_)
            · rename_i h1 h2
              rw [hg'] at h h1 h2
              rw [decide_eq_true h1, h2, decide_eq_true h] at e
              rw [if_pos (by rw [← e]; rfl)] at hfs
              refine again (j + 1) [15] hlt (by omega) ?_
              (refine qis ?_ ?_ <;> (repeat' first | exact rfl | (refine qS ?_; constructor)))
              · rw [hfs]; simp
              · exact hfs
            · rename_i h1 h2
              rw [hg'] at h h1 h2
              rw [decide_eq_true h1, h2, decide_eq_false h] at e
              rw [if_neg (by rw [← e]; simp)] at hfs
              refine again (j + 1) [0] hlt (by omega) ?_
              (refine qis ?_ ?_ <;> (repeat' first | exact rfl | (refine qS ?_; constructor)))
              · rw [hfs]
              · rw [hfs]
            · rename_i h1
              rw [hg'] at h h1
              rw [decide_eq_true h1, h] at e
              rw [if_neg (by rw [← e]; simp)] at hfs
              refine again (j + 1) [0] hlt (by omega) ?_
              (refine qis ?_ ?_ <;> (repeat' first | exact rfl | (refine qS ?_; constructor)))
              · rw [hfs]
              · rw [hfs]
            · rw [hg'] at h
              rw [decide_eq_false h] at e
              rw [if_neg (by rw [← e]; simp)] at hfs
              refine again (j + 1) [0] hlt (by omega) ?_
              (refine qis ?_ ?_ <;> (repeat' first | exact rfl | (refine qS ?_; constructor)))
              · rw [hfs]
              · rw [hfs]
          · have : j = k := by omega
            subst this
            (repeat' first | (refine Owe.same ?_; first | refine Owe.o ?_ | refine Owe.mk ?_ ?_) | (refine Fork.same ?_; (first | refine fkD ?_ ?_ | refine fkN ?_ ?_ | refine fkM ?_ ?_) <;> intro h) | refine MvQ.stay ?_)
            refine rqF 0 _ rfl rfl rfl ?_; (repeat' first | exact rfl | (refine qS ?_; constructor))
            exact h0.symm
  · rw [if_neg h0]
    refine pi2 fn32 ?_
    (repeat' first | (refine Owe.same ?_; first | refine Owe.o ?_ | refine Owe.mk ?_ ?_) | (refine Fork.same ?_; (first | refine fkD ?_ ?_ | refine fkN ?_ ?_ | refine fkM ?_ ?_) <;> intro h) | ((first | refine OpsL.same ?_ | refine OpsDL.same ?_); first | refine pK C68 rfl rfl ?_ | refine pK C69 rfl rfl ?_ | refine pK C56 rfl rfl ?_ | refine pK C55 rfl rfl ?_) | refine MvQ.stay ?_)
    · (refine rqK rfl ?_; (repeat' first | exact rfl | (refine qS ?_; constructor)))
    · exact absurd h h0
end Go.Pw

set_option linter.unusedSimpArgs false
set_option linter.unusedVariables false
namespace Go.Pw
set_option maxRecDepth 2000
open Go Go.Proofs A1 A2 A3 A4
theorem C134 {n : Int} : PFD Tryz.prog 134 [vi .i64 n] (vbl false) := by
  refine pi1 fn134 ?_
  (repeat' first | (refine Owe.same ?_; first | refine Owe.o ?_ | refine Owe.mk ?_ ?_) | (refine Fork.same ?_; (first | refine fkD ?_ ?_ | refine fkN ?_ ?_ | refine fkM ?_ ?_) <;> intro h) | refine MvQ.stay ?_)
  (refine rqK rfl ?_; (repeat' first | exact rfl | (refine qS ?_; constructor)))
  simp
theorem C147 {a b : Int} : PFD Tryz.prog 147 [vi .i64 a, vi .i64 b] (vbl (decide (a < b))) := by
  refine pi1 fn147 ?_
  (repeat' first | (refine Owe.same ?_; first | refine Owe.o ?_ | refine Owe.mk ?_ ?_) | (refine Fork.same ?_; (first | refine fkY ?_ | refine fkF ?_ | ((first | refine fkD ?_ ?_ | refine fkN ?_ ?_ | refine fkM ?_ ?_) <;> intro h))) | ((first | refine OpsL.same ?_ | refine OpsDL.same ?_); first | refine pK C134 rfl rfl ?_) | refine MvQ.stay ?_)
  (refine rqK rfl ?_; (repeat' first | exact rfl | (refine qS ?_; constructor)))
def cmpI (a b : Int) : Int := if a < b then -1 else if b < a then 1 else 0
theorem C97 {a b : Int} : PFD Tryz.prog 97 [vi .i64 a, vi .i64 b] (vi .i64 (cmpI a b)) := by
  refine pi1 fn97 ?_
  (repeat' first | (refine Owe.same ?_; first | refine Owe.o ?_ | refine Owe.mk ?_ ?_) | (refine Fork.same ?_; (first | refine fkY ?_ | refine fkF ?_ | ((first | refine fkD ?_ ?_ | refine fkN ?_ ?_ | refine fkM ?_ ?_) <;> intro h))) | ((first | refine OpsL.same ?_ | refine OpsDL.same ?_); first | refine pK C134 rfl rfl ?_) | refine MvQ.stay ?_)
  · (refine rqK rfl ?_; (repeat' first | exact rfl | (refine qS ?_; constructor))); rw [cmpI, if_pos h]
  · rename_i h1
    (refine rqK rfl ?_; (repeat' first | exact rfl | (refine qS ?_; constructor))); rw [cmpI, if_neg h1, if_pos h]
  · rename_i h1
    (refine rqK rfl ?_; (repeat' first | exact rfl | (refine qS ?_; constructor))); rw [cmpI, if_neg h1, if_neg h]
theorem C96 {l : List Int} : l.length < 4611686018427387904 → PFD Tryz.prog 96 [.c (ints l)] (vi .i64 (fstE l)) := fun hl => by
  refine pi1 fn96 ?_
  (repeat' first | (refine Owe.same ?_; first | refine Owe.o ?_ | refine Owe.mk ?_ ?_) | (refine Fork.same ?_; (first | refine fkD ?_ ?_ | refine fkN ?_ ?_ | refine fkM ?_ ?_) <;> intro h) | refine MvQ.stay ?_)
  refine Sat.lp0 (fun k : Nat => [(8, vi .i64 k), (7, vi .i64 l.length), (6, .c (ints l)), (3, vi .i64 0)]) (fun k => k ≤ l.length ∧ fstE l = fstE (l.drop k)) (fun k => l.length - k) 0 ⟨Nat.zero_le _, rfl⟩ (by ((first | refine qen ?_ | refine qvs ?_ | refine qeq ?_ | refine qst ?_ | refine qv ?_ | refine qc ?_ | refine qe ?_ | refine qcs ?_ | skip); (repeat' first | exact rfl | (refine qS ?_; constructor)))) ?_
  intro k hk
  (repeat' first | (refine Owe.same ?_; first | refine Owe.o ?_ | refine Owe.mk ?_ ?_) | (refine Fork.same ?_; (first | refine fkD ?_ ?_ | refine fkN ?_ ?_ | refine fkM ?_ ?_) <;> intro h) | refine MvQ.stay ?_)
  · simp only [Int.toNat_natCast] at h
    (refine rqK rfl ?_; (repeat' first | exact rfl | (refine qS ?_; constructor)))
    rw [hk.2, fstE_drop l k (by omega), if_neg h, Int.toNat_natCast]
  · simp only [Int.toNat_natCast] at h
    refine again0 (k + 1) ⟨by omega, ?_⟩ (by omega) (by ((first | refine qen ?_ | refine qvs ?_ | refine qeq ?_ | refine qst ?_ | refine qv ?_ | refine qc ?_ | refine qe ?_ | refine qcs ?_ | skip); (repeat' first | exact rfl | (refine qS ?_; constructor))))
    rw [hk.2, fstE_drop l k (by omega), if_pos h]
  · (refine rqK rfl ?_; (repeat' first | exact rfl | (refine qS ?_; constructor)))
    rw [hk.2, List.drop_of_length_le (by omega)]; rfl
/-- Lists of numbers compared. -/
def cmpL : List Int → List Int → Int
  | [], [] => 0
  | [], _ :: _ => -1
  | _ :: _, [] => 1
  | x :: l, y :: m => if cmpI x y = 0 then cmpL l m else cmpI x y
theorem cmpL_drop (l m : List Int) (k : Nat) (h1 : k < l.length) (h2 : k < m.length) : cmpL (l.drop k) (m.drop k) = if cmpI (l.getD k 0) (m.getD k 0) = 0 then cmpL (l.drop (k + 1)) (m.drop (k + 1)) else cmpI (l.getD k 0) (m.getD k 0) := by
  rw [List.drop_eq_getElem_cons h1, List.drop_eq_getElem_cons h2, cmpL, List.getD_eq_getElem?_getD, List.getElem?_eq_getElem h1, List.getD_eq_getElem?_getD, List.getElem?_eq_getElem h2]
  rfl
theorem C98 {l m : List Int} : (l.length ≤ 1000000 ∧ m.length ≤ 1000000) → PFD Tryz.prog 98 [.c (ints l), .c (ints m)] (vi .i64 (cmpL l m)) := fun ⟨hl, hm⟩ => by
  refine pi1 fn98 ?_
  (repeat' first | (refine Owe.same ?_; first | refine Owe.o ?_ | refine Owe.mk ?_ ?_) | (refine Fork.same ?_; (first | refine fkD ?_ ?_ | refine fkN ?_ ?_ | refine fkM ?_ ?_) <;> intro h) | refine MvQ.stay ?_)
  refine Sat.lp0 (fun k : Nat => [(11, vi .i64 k), (10, vi .i64 l.length), (9, .c (ints l)), (0, .c (ints l)), (1, .c (ints m))]) (fun k => k ≤ l.length ∧ k ≤ m.length ∧ cmpL l m = cmpL (l.drop k) (m.drop k)) (fun k => l.length - k) 0 ⟨Nat.zero_le _, Nat.zero_le _, rfl⟩ (by ((first | refine qen ?_ | refine qvs ?_ | refine qeq ?_ | refine qst ?_ | refine qv ?_ | refine qc ?_ | refine qe ?_ | refine qcs ?_ | skip); (repeat' first | exact rfl | (refine qS ?_; constructor)))) ?_
  intro k ⟨hk, hk2, he⟩
  (repeat' first | (refine Owe.same ?_; first | refine Owe.o ?_ | refine Owe.mk ?_ ?_) | (refine Fork.same ?_; (first | refine fkD ?_ ?_ | refine fkN ?_ ?_ | refine fkM ?_ ?_) <;> intro h) | ((first | refine OpsL.same ?_ | refine OpsDL.same ?_); first | refine pK C97 rfl rfl ?_) | refine MvQ.stay ?_)
  · (refine rqK rfl ?_; (repeat' first | exact rfl | (refine qS ?_; constructor)))
    rw [he, List.drop_of_length_le (show m.length ≤ k by omega), List.drop_eq_getElem_cons (show k < l.length by omega)]; rfl
  · have e := cmpL_drop l m k (by omega) (by omega)
    have h : ¬ cmpI (l.getD k 0) (m.getD k 0) = 0 := h
    rw [if_neg h] at e
    (refine rqK rfl ?_; (repeat' first | exact rfl | (refine qS ?_; constructor))); rw [he, e]; rfl
  · have e := cmpL_drop l m k (by omega) (by omega)
    have h : cmpI (l.getD k 0) (m.getD k 0) = 0 := h
    rw [if_pos h] at e
    exact again0 (k + 1) ⟨by omega, by omega, by rw [he, e]⟩ (by omega) (by ((first | refine qen ?_ | refine qvs ?_ | refine qeq ?_ | refine qst ?_ | refine qv ?_ | refine qc ?_ | refine qe ?_ | refine qcs ?_ | skip); (repeat' first | exact rfl | (refine qS ?_; constructor))))
  · (refine rqK rfl ?_; (repeat' first | exact rfl | (refine qS ?_; constructor)))
    rw [he, List.drop_of_length_le (show l.length ≤ k by omega), List.drop_eq_getElem_cons (show k < m.length by omega)]; rfl
  · (refine rqK rfl ?_; (repeat' first | exact rfl | (refine qS ?_; constructor)))
    rw [he, List.drop_of_length_le (show l.length ≤ k by omega), List.drop_of_length_le (show m.length ≤ k by omega)]; rfl
theorem bit_test {b i : Nat} (hb : b < 2 ^ 63) (hi : i < 64) : decide (IntKind.u64.wrap ((BitVec.ofInt IntKind.u64.bits ((b : Int).fdiv (2 ^ min (Int.toNat (i : Int)) IntKind.u64.bits)) &&& BitVec.ofInt IntKind.u64.bits 1).toNat : Nat) = 1) = b.testBit i := by
  have hbits : IntKind.u64.bits = 64 := rfl
  have e1 : (b : Int).fdiv (2 ^ min (Int.toNat (i : Int)) IntKind.u64.bits) = ((b / 2 ^ i : Nat) : Int) := by
    rw [hbits, Int.toNat_natCast, Nat.min_eq_left (by omega), Int.fdiv_eq_ediv_of_nonneg _ (Int.pow_nonneg (by decide))]
    norm_cast
  rw [e1, Nat.testBit_eq_decide_div_mod_eq]
  have hlt : b / 2 ^ i < 2 ^ 63 := by
    have := Nat.div_le_self b (2 ^ i)
    omega
  generalize b / 2 ^ i = q at hlt ⊢
  have e2 : (BitVec.ofInt IntKind.u64.bits (q : Int) &&& BitVec.ofInt IntKind.u64.bits 1).toNat = q % 2 := by
    rw [BitVec.toNat_and]
    have f1 : (BitVec.ofInt IntKind.u64.bits (q : Int)).toNat = q := by
      rw [BitVec.toNat_ofInt, hbits]; omega
    have f2 : (BitVec.ofInt IntKind.u64.bits 1).toNat = 1 := rfl
    rw [f1, f2, Nat.and_one_is_mod]
  rw [e2]
  have e3 : IntKind.u64.wrap ((q % 2 : Nat) : Int) = ((q % 2 : Nat) : Int) := by
    rcases (show q % 2 = 0 ∨ q % 2 = 1 by omega) with h | h <;> rw [h] <;> rfl
  rw [e3, Bool.eq_iff_iff, decide_eq_true_eq, decide_eq_true_eq]
  omega
/-- The numbers of a set, as bits say. -/
abbrev subL (n b : Nat) : List Int := fltL (fun i => b.testBit i) n
theorem subL_mem {n b : Nat} {x : Int} (h : x ∈ subL n b) : 0 ≤ x ∧ x < n := by
  simp only [subL, fltL, List.mem_map, List.mem_filter, List.mem_range] at h
  obtain ⟨i, ⟨h1, _⟩, rfl⟩ := h
  omega
structure BSt where
  l : List Int
  p : Int
  ok : Bool
/-- The best set among those of the first bits. -/
def bestK (c : List Int → Int × Bool) (n : Nat) : Nat → BSt
  | 0 => ⟨[], 0, false⟩
  | b + 1 => let s := bestK c n b
    let t := subL n b
    if (c t).2 = true ∧ (s.ok = false ∨ fstE [cmpI (c t).1 s.p, cmpI t.length s.l.length, cmpL t s.l] < 0) then ⟨t, (c t).1, true⟩ else s
theorem bestK_len (c : List Int → Int × Bool) (n : Nat) : ∀ b, (bestK c n b).l.length ≤ n
  | 0 => by simp [bestK]
  | b + 1 => by
    have ih := bestK_len c n b
    have := fltL_len (fun i => b.testBit i) n
    simp only [bestK]
    split
    · exact this
    · exact ih
theorem C62 {g : FuncId} {rows : List (List D)} {c : List Int → Int × Bool} {n : Nat} (hg : ∀ t : List Int, t.length ≤ 1000000 → (∀ x ∈ t, 0 ≤ x ∧ x < n) → PFD Tryz.prog g (.c (ints t) :: rows.map fun r => .c (.rp r)) (.tup [vi .i64 (c t).1, vbl (c t).2])) : n ≤ 20 → PFD Tryz.prog 62 [vi .i64 n, .c (.fnR g rows)] (.tup [.c (ints (bestK c n (2 ^ n)).l), vi .i64 (bestK c n (2 ^ n)).p, vbl (bestK c n (2 ^ n)).ok]) := fun hn => by
  have hpow : 2 ^ n ≤ 2 ^ 20 := Nat.pow_le_pow_right (by decide) hn
  obtain ⟨m, hm⟩ : ∃ m, 2 ^ n = m := ⟨_, rfl⟩
  have hp : ((2 : Int) ^ n) = (m : Int) := by rw [← hm]; norm_cast
  rw [hm] at hpow ⊢
  have e1 : IntKind.u64.wrap (1 * 2 ^ min (Int.toNat (n : Int)) IntKind.u64.bits) = (m : Int) := by
    have hb : IntKind.u64.bits = 64 := rfl
    rw [hb, Int.toNat_natCast, Nat.min_eq_left (by omega), Int.one_mul, u64_wrap, hp]
    omega
  refine pi3 fn62 ?_
  (repeat' first | (refine Owe.same ?_; first | refine Owe.o ?_ | refine Owe.mk ?_ ?_) | (refine Fork.same ?_; (first | refine fkD ?_ ?_ | refine fkN ?_ ?_ | refine fkM ?_ ?_) <;> intro h) | refine MvQ.stay ?_)
  refine Sat.lp0 (fun b : Nat => [(17, vi .u64 b), (16, vi .u64 m), (0, vi .i64 n), (1, .c (.fnR g rows)), (7, .c (ints (bestK c n b).l)), (8, vi .i64 (bestK c n b).p), (9, vbl (bestK c n b).ok)]) (fun b => b ≤ m) (fun b => m - b) 0 (Nat.zero_le _) ?_ ?_
  · ((first | refine qen ?_ | refine qvs ?_ | refine qeq ?_ | refine qst ?_ | refine qv ?_ | refine qc ?_ | refine qe ?_ | refine qcs ?_ | skip); (repeat' first | exact rfl | (refine qS ?_; constructor)))
    exact e1
  · intro b hb
    refine Fork.dec (fun hlt => ?_) (fun hlt => ?_)
    · have hlt : b < m := by omega
      (repeat' first | (refine Owe.same ?_; first | refine Owe.o ?_ | refine Owe.mk ?_ ?_) | (refine Fork.same ?_; (first | refine fkD ?_ ?_ | refine fkN ?_ ?_ | refine fkM ?_ ?_) <;> intro h) | refine MvQ.stay ?_)
      refine Sat.nilS 11 3 1 (fun i => r1 (([] : List Int).getD i 0)) rfl ?_
      refine Sat.lp (fun i : Nat => ⟨[(21, vi .i64 i), (20, vi .i64 n), (10, vi .u64 b), (11, .c (.ms 0 (fltL (fun i => b.testBit i) i).length)), (17, vi .u64 b), (16, vi .u64 m), (0, vi .i64 n), (1, .c (.fnR g rows)), (7, .c (ints (bestK c n b).l)), (8, vi .i64 (bestK c n b).p), (9, vbl (bestK c n b).ok)], [(0, rowv 3 1 r1 0 (fltL (fun i => b.testBit i) i))], 1⟩)
        (fun i => i ≤ n) (fun i => n - i) 0 [0] (Nat.zero_le _) ?_ ?_
      · (refine qis ?_ ?_ <;> (repeat' first | exact rfl | (refine qS ?_; constructor)))
      · intro i hi
        have hfl := fltL_len (fun i => b.testBit i) i
        have hfs := fltL_succ (fun i => b.testBit i) i
        refine Fork.dec (fun hli => ?_) (fun hli => ?_)
        · have hli : i < n := by omega
          have ht := bit_test (b := b) (i := i) (by omega) (by omega)
          (repeat' first | (refine Owe.same ?_; first | refine Owe.o ?_ | refine Owe.mk ?_ ?_) | (refine Fork.same ?_; (first | refine fkD ?_ ?_ | refine fkN ?_ ?_ | refine fkM ?_ ?_) <;> intro h) | refine MvQ.stay ?_)
          · have h : decide _ = true := decide_eq_true h
            rw [ht] at h
            rw [if_pos h] at hfs
            refine again (i + 1) [1] hli (by omega) ?_
            (refine qis ?_ ?_ <;> (repeat' first | exact rfl | (refine qS ?_; constructor)))
            · rw [hfs]; simp
            · exact hfs
          · have h : decide _ = false := decide_eq_false h
            rw [ht] at h
            rw [if_neg (by rw [h]; decide)] at hfs
            refine again (i + 1) [0] hli (by omega) ?_
            (refine qis ?_ ?_ <;> (repeat' first | exact rfl | (refine qS ?_; constructor)))
            · rw [hfs]
            · rw [hfs]
        · have : i = n := by omega
          subst this
          (repeat' first | (refine Owe.same ?_; first | refine Owe.o ?_ | refine Owe.mk ?_ ?_) | (refine Fork.same ?_; (first | refine fkD ?_ ?_ | refine fkN ?_ ?_ | refine fkM ?_ ?_) <;> intro h) | refine MvQ.stay ?_)
          refine OpsL.frz 11 _ rfl rfl (Nat.le_refl _) ?_
          refine OpsL.frz 36 _ rfl rfl (Nat.le_refl _) ?_
          have hgt := hg (subL i b) (by have := fltL_len (fun i => b.testBit i) i; show (fltL (fun i => b.testBit i) i).length ≤ _; omega) (fun x hx => subL_mem hx)
          have hl2 := bestK_len c i b
          (repeat' first | (refine Owe.same ?_; first | refine Owe.o ?_ | refine Owe.mk ?_ ?_) | (refine Fork.same ?_; (first | refine fkD ?_ ?_ | refine fkN ?_ ?_ | refine fkM ?_ ?_) <;> intro h) | ((first | refine OpsL.same ?_ | refine OpsDL.same ?_); first | refine pR hgt rfl rfl ?_) | refine MvQ.stay ?_)
          all_goals (repeat' first | (refine Owe.same ?_; first | refine Owe.o ?_ | refine Owe.mk ?_ ?_) | (refine Fork.same ?_; (first | refine fkD ?_ ?_ | refine fkN ?_ ?_ | refine fkM ?_ ?_) <;> intro h) | ((first | refine OpsL.same ?_ | refine OpsDL.same ?_); first | refine pK C97 rfl rfl ?_ | refine pK C98 rfl rfl ?_ | refine pK C96 rfl rfl ?_) | refine MvQ.stay ?_)
          · rename_i h1
            have e : bestK c i (b + 1) = ⟨subL i b, (c (subL i b)).1, true⟩ := by
              simp only [bestK]; rw [if_pos ⟨h1, .inl (by simpa using h)⟩]
            refine again0 (b + 1) hlt (by omega) ?_
            simp only [e]
            ((first | refine qen ?_ | refine qvs ?_ | refine qeq ?_ | refine qst ?_ | refine qv ?_ | refine qc ?_ | refine qe ?_ | refine qcs ?_ | skip); (repeat' first | exact rfl | (refine qS ?_; constructor)))
            rw [u64_wrap]; omega
          · rename_i h1 h2
            have e : bestK c i (b + 1) = ⟨subL i b, (c (subL i b)).1, true⟩ := by
              simp only [bestK]; rw [if_pos ⟨h1, .inr h⟩]
            refine again0 (b + 1) hlt (by omega) ?_
            simp only [e]
            ((first | refine qen ?_ | refine qvs ?_ | refine qeq ?_ | refine qst ?_ | refine qv ?_ | refine qc ?_ | refine qe ?_ | refine qcs ?_ | skip); (repeat' first | exact rfl | (refine qS ?_; constructor)))
            rw [u64_wrap]; omega
          · rename_i h1 h2
            have e : bestK c i (b + 1) = bestK c i b := by
              simp only [bestK]; rw [if_neg]
              rintro ⟨_, h3 | h3⟩
              · rw [h3] at h2; cases h2
              · exact h h3
            refine again0 (b + 1) hlt (by omega) ?_
            simp only [e]
            ((first | refine qen ?_ | refine qvs ?_ | refine qeq ?_ | refine qst ?_ | refine qv ?_ | refine qc ?_ | refine qe ?_ | refine qcs ?_ | skip); (repeat' first | exact rfl | (refine qS ?_; constructor)))
            rw [u64_wrap]; omega
          · have e : bestK c i (b + 1) = bestK c i b := by
              simp only [bestK]; rw [if_neg]
              rintro ⟨h3, _⟩
              rw [h] at h3; cases h3
            refine again0 (b + 1) hlt (by omega) ?_
            simp only [e]
            ((first | refine qen ?_ | refine qvs ?_ | refine qeq ?_ | refine qst ?_ | refine qv ?_ | refine qc ?_ | refine qe ?_ | refine qcs ?_ | skip); (repeat' first | exact rfl | (refine qS ?_; constructor)))
            rw [u64_wrap]; omega
    · have : b = m := by omega
      subst this
      (repeat' first | (refine Owe.same ?_; first | refine Owe.o ?_ | refine Owe.mk ?_ ?_) | (refine Fork.same ?_; (first | refine fkD ?_ ?_ | refine fkN ?_ ?_ | refine fkM ?_ ?_) <;> intro h) | refine MvQ.stay ?_)
      (refine rqK rfl ?_; (repeat' first | exact rfl | (refine qS ?_; constructor)))
end Go.Pw

set_option linter.unusedSimpArgs false
set_option linter.unusedVariables false
namespace Go.Pw
set_option maxRecDepth 2000
open Go Go.Proofs A1 A2 A3 A4
abbrev Dv := Int × Int × Int
abbrev tr (d : Dv) : V := .agg [int d.1, int d.2.1, int d.2.2]
/-- A device in range. -/
abbrev dvOk (d : Dv) : Prop := (0 ≤ d.1 ∧ d.1 ≤ 20) ∧ (1 ≤ d.2.1 ∧ d.2.1 ≤ 10) ∧ 0 ≤ d.2.2 ∧ d.2.2 ≤ 10
abbrev win (d : Dv) : Int := d.2.1 + d.2.2
abbrev dist (a b : Dv) : Bool := decide (max (a.1 - b.1) (-(a.1 - b.1)) ≤ 1)
theorem C102 {a b : Dv} : (dvOk a ∧ dvOk b) → PFD Tryz.prog 102 [tr a, tr b] (vbl (dist a b)) := fun ⟨ha, hb⟩ => by
  refine pi1 fn102 ?_
  (repeat' first | (refine Owe.same ?_; first | refine Owe.o ?_ | refine Owe.mk ?_ ?_) | (refine Fork.same ?_; (first | refine fkD ?_ ?_ | refine fkN ?_ ?_ | refine fkM ?_ ?_) <;> intro h) | ((first | refine OpsL.same ?_ | refine OpsDL.same ?_); first | refine pK C136 rfl rfl ?_) | refine MvQ.stay ?_)
  (refine rqK rfl ?_; (repeat' first | exact rfl | (refine qS ?_; constructor)))
theorem C103 {d : Dv} : dvOk d → PFD Tryz.prog 103 [tr d] (vi .i64 (win d)) := fun h => by
  refine pi1 fn103 ?_
  (repeat' first | (refine Owe.same ?_; first | refine Owe.o ?_ | refine Owe.mk ?_ ?_) | (refine Fork.same ?_; (first | refine fkD ?_ ?_ | refine fkN ?_ ?_ | refine fkM ?_ ?_) <;> intro h) | refine MvQ.stay ?_)
  (refine rqK rfl ?_; (repeat' first | exact rfl | (refine qS ?_; constructor)))
def cyE (n : Int) : Int := unl (1 ≤ n ∧ n ≤ 40) 2
theorem C104 {n : Int} : PFD Tryz.prog 104 [vi .i64 n] (vi .i64 (cyE n)) := by
  refine pi1 fn104 ?_
  (repeat' first | (refine Owe.same ?_; first | refine Owe.o ?_ | refine Owe.mk ?_ ?_) | (refine Fork.same ?_; (first | refine fkD ?_ ?_ | refine fkN ?_ ?_ | refine fkM ?_ ?_) <;> intro h) | ((first | refine OpsL.same ?_ | refine OpsDL.same ?_); first | refine pK C69 rfl rfl ?_ | refine pK C56 rfl rfl ?_) | refine MvQ.stay ?_)
  (refine rqK rfl ?_; (repeat' first | exact rfl | (refine qS ?_; constructor)))
def dvE (d : Dv) : Int := unl (dvOk d) 2
theorem C129 {i : Int} {d : Dv} : PFD Tryz.prog 129 [vi .i64 i, tr d] (vi .i64 (dvE d)) := by
  refine pi1 fn129 ?_
  (repeat' first | (refine Owe.same ?_; first | refine Owe.o ?_ | refine Owe.mk ?_ ?_) | (refine Fork.same ?_; (first | refine fkD ?_ ?_ | refine fkN ?_ ?_ | refine fkM ?_ ?_) <;> intro h) | ((first | refine OpsL.same ?_ | refine OpsDL.same ?_); first | refine pK C69 rfl rfl ?_ | refine pK C56 rfl rfl ?_) | refine MvQ.stay ?_)
  all_goals ((refine rqK rfl ?_; (repeat' first | exact rfl | (refine qS ?_; constructor))); rw [dvE]; refine congrArg (fun b => unb b 2) ?_; rw [Bool.eq_iff_iff]; (try simp only [decide_eq_true_eq, Bool.false_eq_true, false_iff]); omega)
theorem C128 {g : FuncId} {f : Dv → Int} (hg : ∀ (i : Int) (x : Dv), PFD Tryz.prog g [vi .i64 i, tr x] (vi .i64 (f x))) {l : List Dv} : l.length ≤ 1000000 → PFD Tryz.prog 128 [.c (trs l), .c (.fn g [])] (.tup [vi .i64 (eachE f 0 l).1, vi .i64 (eachE f 0 l).2]) := fun hl => by
  refine pi2 fn128 ?_
  (repeat' first | (refine Owe.same ?_; first | refine Owe.o ?_ | refine Owe.mk ?_ ?_) | (refine Fork.same ?_; (first | refine fkD ?_ ?_ | refine fkN ?_ ?_ | refine fkM ?_ ?_) <;> intro h) | refine MvQ.stay ?_)
  refine Sat.lp0 (fun k : Nat => [(11, vi .i64 k), (10, vi .i64 l.length), (9, .c (trs l)), (1, .c (.fn g []))]) (fun k => k ≤ l.length ∧ eachE f 0 l = eachE f k (l.drop k)) (fun k => l.length - k) 0 ⟨Nat.zero_le _, rfl⟩ (by ((first | refine qen ?_ | refine qvs ?_ | refine qeq ?_ | refine qst ?_ | refine qv ?_ | refine qc ?_ | refine qe ?_ | refine qcs ?_ | skip); (repeat' first | exact rfl | (refine qS ?_; constructor)))) ?_
  intro k hk
  (repeat' first | (refine Owe.same ?_; first | refine Owe.o ?_ | refine Owe.mk ?_ ?_) | (refine Fork.same ?_; (first | refine fkD ?_ ?_ | refine fkN ?_ ?_ | refine fkM ?_ ?_) <;> intro h) | ((first | refine OpsL.same ?_ | refine OpsDL.same ?_); first | refine pK (hg _ _) rfl rfl ?_) | refine MvQ.stay ?_)
  · have e := eachE_drop f (0, 0, 0) l k (by omega)
    have h : ¬ f (l.getD k (0, 0, 0)) = 0 := h
    rw [if_neg h, ← hk.2] at e
    (refine rqK rfl ?_; (repeat' first | exact rfl | (refine qS ?_; constructor))) <;> rw [e] <;> rfl
  · have e := eachE_drop f (0, 0, 0) l k (by omega)
    have h : f (l.getD k (0, 0, 0)) = 0 := h
    rw [if_pos h, ← hk.2] at e
    exact again0 (k + 1) ⟨by omega, e⟩ (by omega) (by ((first | refine qen ?_ | refine qvs ?_ | refine qeq ?_ | refine qst ?_ | refine qv ?_ | refine qc ?_ | refine qe ?_ | refine qcs ?_ | skip); (repeat' first | exact rfl | (refine qS ?_; constructor))))
  · have e : eachE f 0 l = (0, 0) := by rw [hk.2, List.drop_of_length_le (by omega)]; rfl
    (refine rqK rfl ?_; (repeat' first | exact rfl | (refine qS ?_; constructor))) <;> rw [e]
/-- The error of devices, with an index. -/
def dvsE (l : List Dv) : Int × Int := if cntE l.length 5 = 0 then eachE dvE 0 l else (0, cntE l.length 5)
theorem C89 {l : List Dv} : l.length ≤ 1000000 → PFD Tryz.prog 89 [.c (trs l)] (.tup [vi .i64 (dvsE l).1, vi .i64 (dvsE l).2]) := fun hl => by
  have c1 := C128 (fun i x => C129 (i := i) (d := x)) hl
  refine pi2 fn89 ?_
  (repeat' first | (refine Owe.same ?_; first | refine Owe.o ?_ | refine Owe.mk ?_ ?_) | (refine Fork.same ?_; (first | refine fkD ?_ ?_ | refine fkN ?_ ?_ | refine fkM ?_ ?_) <;> intro h) | ((first | refine OpsL.same ?_ | refine OpsDL.same ?_); first | refine pK C127 rfl rfl ?_ | refine pK c1 rfl rfl ?_) | refine MvQ.stay ?_)
  · have h : ¬ cntE l.length 5 = 0 := h
    (refine rqK rfl ?_; (repeat' first | exact rfl | (refine qS ?_; constructor))) <;> rw [dvsE, if_neg h]
  · have h : cntE l.length 5 = 0 := h
    (refine rqK rfl ?_; (repeat' first | exact rfl | (refine qS ?_; constructor))) <;> rw [dvsE, if_pos h]
theorem C47 {l : List Dv} : l.length ≤ 1000000 → PFD Tryz.prog 47 [.c (trs l)] (vi .i64 (dvsE l).2) := fun hl => by
  refine pi1 fn47 ?_
  (repeat' first | (refine Owe.same ?_; first | refine Owe.o ?_ | refine Owe.mk ?_ ?_) | (refine Fork.same ?_; (first | refine fkD ?_ ?_ | refine fkN ?_ ?_ | refine fkM ?_ ?_) <;> intro h) | ((first | refine OpsL.same ?_ | refine OpsDL.same ?_); first | refine pK C89 rfl rfl ?_) | refine MvQ.stay ?_)
  (refine rqK rfl ?_; (repeat' first | exact rfl | (refine qS ?_; constructor)))
theorem cntE_ok {n m : Int} : cntE n m = 0 ↔ 0 < n ∧ n ≤ m := by
  rw [cntE, fst0, fst0]
  simp only [unl0 (show (10 : Int) ≠ 0 by decide), unl0 (show (8 : Int) ≠ 0 by decide), fst_nil, and_true]
/-- Valid devices. -/
structure DvOk (l : List Dv) : Prop where
  n : 0 < l.length ∧ l.length ≤ 5
  d : ∀ i, i < l.length → dvOk (l.getD i (0, 0, 0))
theorem dvsE_ok {l : List Dv} : (dvsE l).2 = 0 ↔ DvOk l := by
  constructor
  · intro h
    by_cases h0 : cntE l.length 5 = 0
    · rw [dvsE, if_pos h0, eachE_ok] at h
      have := cntE_ok.1 h0
      exact ⟨by omega, fun i hi => by have := h _ (getD_mem (0, 0, 0) hi); rwa [dvE, unl0 (by decide)] at this⟩
    · rw [dvsE, if_neg h0] at h; exact absurd h h0
  · intro h
    have h0 : cntE l.length 5 = 0 := cntE_ok.2 (by have := h.n; omega)
    rw [dvsE, if_pos h0, eachE_ok]
    intro x hx
    obtain ⟨i, hi, rfl⟩ := List.getElem_of_mem hx
    have := h.d i hi
    rw [List.getD_eq_getElem?_getD, List.getElem?_eq_getElem hi] at this
    rw [dvE, unl0 (by decide)]; exact this
abbrev dv (l : List Dv) (i : Int) : Dv := l.getD i.toNat (0, 0, 0)
/-- The devices of a set disturb each other, up to one of them. -/
def pwB (l : List Dv) (t : List Int) (k : Nat) : Bool := (List.range k).all fun i => (List.range i).all fun j => dist (dv l (t.getD i 0)) (dv l (t.getD j 0))
def wnS (l : List Dv) (t : List Int) : Nat → Int
  | 0 => 0
  | k + 1 => wnS l t k - win (dv l (t.getD k 0))
theorem pwB_succ (l : List Dv) (t : List Int) (k : Nat) : pwB l t (k + 1) = (pwB l t k && (List.range k).all fun j => dist (dv l (t.getD k 0)) (dv l (t.getD j 0))) := by
  simp [pwB, List.range_succ]
def bdC (l : List Dv) (t : List Int) : Int × Bool := if pwB l t t.length = true then (wnS l t t.length, true) else (0, false)
theorem wnS_bd {l : List Dv} {t : List Int} (hl : DvOk l) (ht : ∀ x ∈ t, 0 ≤ x ∧ x < l.length) : ∀ k, k ≤ t.length → -(20 * (k : Int)) ≤ wnS l t k ∧ wnS l t k ≤ 0
  | 0, _ => by simp [wnS]
  | k + 1, hk => by
    have ih := wnS_bd hl ht k (by omega)
    have h1 := ht _ (getD_mem 0 (show k < t.length by omega))
    have h2 := hl.d (t.getD k 0).toNat (by omega)
    simp only [wnS, win, dv]; omega
theorem pwB_le {l : List Dv} {t : List Int} {k m : Nat} (hkm : k ≤ m) (h : pwB l t m = true) : pwB l t k = true := by
  simp only [pwB, List.all_eq_true, List.mem_range] at h ⊢
  exact fun i hi j hj => h i (by omega) j hj
theorem C101 {l : List Dv} {t : List Int} (hl : DvOk l) (htl : t.length ≤ 1000000) (ht : ∀ x ∈ t, 0 ≤ x ∧ x < l.length) : PFD Tryz.prog 101 [.c (ints t), .c (.rp [.sl 3 l.length fun i => r3 (l.getD i (0, 0, 0))])] (.tup [vi .i64 (bdC l t).1, vbl (bdC l t).2]) := by
  have hn := hl.n
  refine pi2 fn101 ?_
  (repeat' first | (refine Owe.same ?_; first | refine Owe.o ?_ | refine Owe.mk ?_ ?_) | (refine Fork.same ?_; (first | refine fkD ?_ ?_ | refine fkN ?_ ?_ | refine fkM ?_ ?_) <;> intro h) | refine MvQ.stay ?_)
  refine Sat.lp0 (fun k : Nat => [(12, vi .i64 k), (11, vi .i64 t.length), (10, .c (ints t)), (0, .c (ints t)), (1, .c (.rp [.sl 3 l.length fun i => r3 (l.getD i (0, 0, 0))])), (5, vi .i64 (wnS l t k))]) (fun k => k ≤ t.length ∧ pwB l t k = true) (fun k => t.length - k) 0 ⟨Nat.zero_le _, rfl⟩ (by ((first | refine qen ?_ | refine qvs ?_ | refine qeq ?_ | refine qst ?_ | refine qv ?_ | refine qc ?_ | refine qe ?_ | refine qcs ?_ | skip); (repeat' first | exact rfl | (refine qS ?_; constructor)))) ?_
  intro k hk
  have hb := wnS_bd hl ht k hk.1
  refine Fork.dec (fun hlt => ?_) (fun hlt => ?_)
  · have hlt : k < t.length := by omega
    have h1 := ht _ (getD_mem 0 hlt)
    have h2 := hl.d (t.getD k 0).toNat (by omega)
    (repeat' first | (refine Owe.same ?_; first | refine Owe.o ?_ | refine Owe.mk ?_ ?_) | (refine Fork.same ?_; (first | refine fkD ?_ ?_ | refine fkN ?_ ?_ | refine fkM ?_ ?_) <;> intro h) | refine MvQ.stay ?_)
    refine Sat.lp0 (fun j : Nat => [(21, vi .i64 j), (20, vi .i64 k), (19, .c (.d (.sl 1 k fun i => r1 (t.getD i 0)))), (7, vi .i64 (t.getD k 0)), (12, vi .i64 k), (11, vi .i64 t.length), (10, .c (ints t)), (0, .c (ints t)), (1, .c (.rp [.sl 3 l.length fun i => r3 (l.getD i (0, 0, 0))])), (5, vi .i64 (wnS l t k))]) (fun j => j ≤ k ∧ (List.range j).all (fun j => dist (dv l (t.getD k 0)) (dv l (t.getD j 0))) = true) (fun j => k - j) 0 ⟨Nat.zero_le _, rfl⟩ (by ((first | refine qen ?_ | refine qvs ?_ | refine qeq ?_ | refine qst ?_ | refine qv ?_ | refine qc ?_ | refine qe ?_ | refine qcs ?_ | skip); (repeat' first | exact rfl | (refine qS ?_; constructor)))) ?_
    intro j hj
    refine Fork.dec (fun hlj => ?_) (fun hlj => ?_)
    · have hlj : j < k := by omega
      have h3 := ht _ (getD_mem 0 (show j < t.length by omega))
      have h4 := hl.d (t.getD j 0).toNat (by omega)
      have c97 : PFD Tryz.prog 102 _ _ := C102 (a := dv l (t.getD k 0)) (b := dv l (t.getD j 0)) ⟨h2, h4⟩
      (repeat' first | (refine Owe.same ?_; first | refine Owe.o ?_ | refine Owe.mk ?_ ?_) | (refine Fork.same ?_; (first | refine fkD ?_ ?_ | refine fkN ?_ ?_ | refine fkM ?_ ?_) <;> intro h) | ((first | refine OpsL.same ?_ | refine OpsDL.same ?_); first | refine pK c97 rfl rfl ?_) | refine MvQ.stay ?_)
      · have h : dist (dv l (t.getD k 0)) (dv l (t.getD j 0)) = false := decide_eq_false h
        have e : bdC l t = (0, false) := by
          rw [bdC, if_neg]
          intro hp
          have := pwB_le (show k + 1 ≤ t.length by omega) hp
          rw [pwB_succ, Bool.and_eq_true] at this
          have := (List.all_eq_true.1 this.2) j (List.mem_range.2 hlj)
          rw [h] at this; cases this
        (refine rqK rfl ?_; (repeat' first | exact rfl | (refine qS ?_; constructor))) <;> rw [e]
      · have h : dist (dv l (t.getD k 0)) (dv l (t.getD j 0)) = true := decide_eq_true h
        refine again0 (j + 1) ⟨hlj, ?_⟩ (by omega) (by ((first | refine qen ?_ | refine qvs ?_ | refine qeq ?_ | refine qst ?_ | refine qv ?_ | refine qc ?_ | refine qe ?_ | refine qcs ?_ | skip); (repeat' first | exact rfl | (refine qS ?_; constructor))))
        rw [List.range_succ, List.all_append, hj.2]
        simp only [List.all_cons, List.all_nil, Bool.and_true, Bool.true_and]; exact h
    · have : j = k := by omega
      subst this
      have c98 : PFD Tryz.prog 103 _ _ := C103 (d := dv l (t.getD j 0)) h2
      have hw : 1 ≤ win (dv l (t.getD j 0)) ∧ win (dv l (t.getD j 0)) ≤ 20 := by simp only [win, dv]; omega
      (repeat' first | (refine Owe.same ?_; first | refine Owe.o ?_ | refine Owe.mk ?_ ?_) | (refine Fork.same ?_; (first | refine fkD ?_ ?_ | refine fkN ?_ ?_ | refine fkM ?_ ?_) <;> intro h) | ((first | refine OpsL.same ?_ | refine OpsDL.same ?_); first | refine pK c98 rfl rfl ?_) | refine MvQ.stay ?_)
      exact again0 (j + 1) ⟨hlt, by rw [pwB_succ, hk.2, hj.2]; rfl⟩ (by omega) (by ((first | refine qen ?_ | refine qvs ?_ | refine qeq ?_ | refine qst ?_ | refine qv ?_ | refine qc ?_ | refine qe ?_ | refine qcs ?_ | skip); (repeat' first | exact rfl | (refine qS ?_; constructor))))
  · have : k = t.length := by omega
    subst this
    (repeat' first | (refine Owe.same ?_; first | refine Owe.o ?_ | refine Owe.mk ?_ ?_) | (refine Fork.same ?_; (first | refine fkD ?_ ?_ | refine fkN ?_ ?_ | refine fkM ?_ ?_) <;> intro h) | refine MvQ.stay ?_)
    have e : bdC l t = (wnS l t t.length, true) := by rw [bdC, if_pos hk.2]
    (refine rqK rfl ?_; (repeat' first | exact rfl | (refine qS ?_; constructor))) <;> rw [e]
/-- The best set for the bound. -/
abbrev bdK (l : List Dv) : BSt := bestK (bdC l) l.length (2 ^ l.length)
theorem bestK_lo {c : List Int → Int × Bool} {n : Nat} {lo : Int} (hlo : lo ≤ 0) (h : ∀ b, lo ≤ (c (subL n b)).1 ∧ (c (subL n b)).1 ≤ 0) : ∀ b, lo ≤ (bestK c n b).p ∧ (bestK c n b).p ≤ 0
  | 0 => by simp [bestK, hlo]
  | b + 1 => by
    have ih := bestK_lo hlo h b
    simp only [bestK]
    split
    · exact h b
    · exact ih
theorem bdC_bd {l : List Dv} (hl : DvOk l) (b : Nat) : -100 ≤ (bdC l (subL l.length b)).1 ∧ (bdC l (subL l.length b)).1 ≤ 0 := by
  have h1 := wnS_bd hl (t := subL l.length b) (fun x hx => subL_mem hx) _ (Nat.le_refl _)
  have h2 : (subL l.length b).length ≤ l.length := fltL_len _ _
  have h3 := hl.n
  rw [bdC]
  split
  · simp only; omega
  · simp
theorem C66 {l : List Dv} : l.length ≤ 1000000 → PFD Tryz.prog 66 [.c (trs l)] (.tup [.c (ints (if (dvsE l).2 = 0 then (bdK l).l else [])), vi .i64 (if (dvsE l).2 = 0 then -(bdK l).p else 0), vi .i64 (dvsE l).2]) := fun hl => by
  have c1 := C47 hl
  by_cases h0 : (dvsE l).2 = 0
  · have hO := dvsE_ok.1 h0
    have hn := hO.n
    have c2 := C62 (g := 101) (rows := [[.sl 3 l.length fun i => r3 (l.getD i (0, 0, 0))]]) (c := bdC l) (n := l.length) (fun t ht hx => C101 hO ht hx) (show l.length ≤ 20 by omega)
    have hp := bestK_lo (c := bdC l) (n := l.length) (lo := -100) (by decide) (fun b => bdC_bd hO b) (2 ^ l.length)
    rw [if_pos h0, if_pos h0]
    rw [h0] at c1
    refine pi3 fn66 ?_
    (repeat' first | (refine Owe.same ?_; first | refine Owe.o ?_ | refine Owe.mk ?_ ?_) | (refine Fork.same ?_; (first | refine fkD ?_ ?_ | refine fkN ?_ ?_ | refine fkM ?_ ?_) <;> intro h) | ((first | refine OpsL.same ?_ | refine OpsDL.same ?_); first | refine pK c1 rfl rfl ?_ | refine pK c2 rfl rfl ?_) | refine MvQ.stay ?_)
    · exact absurd rfl h
    · (refine rqK rfl ?_; (repeat' first | exact rfl | (refine qS ?_; constructor)))
      exact h0.symm
  · rw [if_neg h0, if_neg h0]
    refine pi3 fn66 ?_
    (repeat' first | (refine Owe.same ?_; first | refine Owe.o ?_ | refine Owe.mk ?_ ?_) | (refine Fork.same ?_; (first | refine fkD ?_ ?_ | refine fkN ?_ ?_ | refine fkM ?_ ?_) <;> intro h) | ((first | refine OpsL.same ?_ | refine OpsDL.same ?_); first | refine pK c1 rfl rfl ?_) | refine MvQ.stay ?_)
    · (refine rqK rfl ?_; (repeat' first | exact rfl | (refine qS ?_; constructor)))
    · exact absurd h h0
end Go.Pw

set_option linter.unusedSimpArgs false
set_option linter.unusedVariables false
namespace Go.Pw
set_option maxRecDepth 2000
open Go Go.Proofs A1 A2 A3 A4
theorem tmod_nn {a b : Int} (ha : 0 ≤ a) (hb : 0 < b) : a.tmod b = a % b ∧ 0 ≤ a % b ∧ a % b < b := ⟨Int.tmod_eq_emod_of_nonneg ha, Int.emod_nonneg _ (by omega), Int.emod_lt_of_pos _ hb⟩
/-- Whether two windows have a common tick. -/
def mtB (a b : Dv) (s t c : Int) : Bool := decide ((t - s + c) % c < win a) || decide ((c - (t - s + c) % c) % c < win b)
theorem C161 {a b : Dv} {s t c : Int} : ((dvOk a ∧ dvOk b) ∧ (0 < c ∧ c ≤ 40) ∧ (0 ≤ s ∧ s < c) ∧ 0 ≤ t ∧ t < c) → PFD Tryz.prog 161 [tr a, tr b, vi .i64 s, vi .i64 t, vi .i64 c] (vbl (mtB a b s t c)) := fun ⟨⟨ha, hb⟩, hc, hs, ht⟩ => by
  obtain ⟨e1, e2, e3⟩ := tmod_nn (a := t - s + c) (b := c) (by omega) hc.1
  obtain ⟨e4, e5, e6⟩ := tmod_nn (a := c - (t - s + c) % c) (b := c) (by omega) hc.1
  rw [← e1] at e2 e3 e4 e5 e6
  have e : mtB a b s t c = (decide ((t - s + c).tmod c < win a) || decide ((c - (t - s + c).tmod c).tmod c < win b)) := by rw [e4, e1]; rfl
  rw [e]
  refine pi1 fn161 ?_
  (repeat' first | (refine Owe.same ?_; first | refine Owe.o ?_ | refine Owe.mk ?_ ?_) | (refine Fork.same ?_; (first | refine fkD ?_ ?_ | refine fkN ?_ ?_ | refine fkM ?_ ?_) <;> intro h) | ((first | refine OpsL.same ?_ | refine OpsDL.same ?_); first | refine pK C103 rfl rfl ?_) | refine MvQ.stay ?_)
  · (refine rqK rfl ?_; (repeat' first | exact rfl | (refine qS ?_; constructor)))
    rw [decide_eq_true h]; rfl
  · (refine rqK rfl ?_; (repeat' first | exact rfl | (refine qS ?_; constructor)))
    rw [decide_eq_false h]; rfl
theorem C137 {l : List Int} : l.length ≤ 1000000 → PFD Tryz.prog 137 [.c (ints l)] (.c (.cl 1 l.length fun i => r1 (l.getD i 0))) := fun hl => by
  refine pi1 fn137 ?_
  (repeat' first | (refine Owe.same ?_; first | refine Owe.o ?_ | refine Owe.mk ?_ ?_) | (refine Fork.same ?_; (first | refine fkD ?_ ?_ | refine fkN ?_ ?_ | refine fkM ?_ ?_) <;> intro h) | refine MvQ.stay ?_)
  (refine rqK rfl ?_; (repeat' first | exact rfl | (refine qS ?_; constructor)))
/-- Whether two devices blind each other, or one itself. -/
def blB (l : List Dv) (st : List Int) (i k : Nat) (c : Int) : Bool :=
  if i = k then decide (c < win (l.getD i (0, 0, 0))) else dist (l.getD i (0, 0, 0)) (l.getD k (0, 0, 0)) && mtB (l.getD i (0, 0, 0)) (l.getD k (0, 0, 0)) (st.getD i 0) (st.getD k 0) c
/-- Starts within a cycle. -/
abbrev stOk (st : List Int) (c : Int) : Prop := ∀ i, i < st.length → 0 ≤ st.getD i 0 ∧ st.getD i 0 < c
theorem C138 {l : List Dv} {st : List Int} {i k : Nat} {c : Int} : (DvOk l ∧ (0 < c ∧ c ≤ 40) ∧ stOk st c ∧ (i < l.length ∧ k < l.length) ∧ i < st.length ∧ k < st.length) → PFD Tryz.prog 138 [.c (trs l), .c (ints st), vi .i64 i, vi .i64 k, vi .i64 c] (vbl (blB l st i k c)) := fun ⟨hl, hc, hs, hi, hst⟩ => by
  have h1 := hl.d i hi.1
  have h2 := hl.d k hi.2
  have h3 := hs i hst.1
  have h4 := hs k hst.2
  have c98 : PFD Tryz.prog 103 _ _ := C103 (d := l.getD i (0, 0, 0)) h1
  have c97 : PFD Tryz.prog 102 _ _ := C102 (a := l.getD i (0, 0, 0)) (b := l.getD k (0, 0, 0)) ⟨h1, h2⟩
  have c128 : PFD Tryz.prog 161 _ _ := C161 (a := l.getD i (0, 0, 0)) (b := l.getD k (0, 0, 0)) (s := st.getD i 0) (t := st.getD k 0) (c := c) ⟨⟨h1, h2⟩, hc, h3, h4⟩
  refine pi1 fn138 ?_
  (repeat' first | (refine Owe.same ?_; first | refine Owe.o ?_ | refine Owe.mk ?_ ?_) | (refine Fork.same ?_; (first | refine fkD ?_ ?_ | refine fkN ?_ ?_ | refine fkM ?_ ?_) <;> intro h) | ((first | refine OpsL.same ?_ | refine OpsDL.same ?_); first | refine pK c98 rfl rfl ?_ | refine pK c97 rfl rfl ?_ | refine pK c128 rfl rfl ?_) | refine MvQ.stay ?_)
  · have : i = k := by omega
    subst this
    (refine rqK rfl ?_; (repeat' first | exact rfl | (refine qS ?_; constructor)))
    rw [blB, if_pos rfl]
  · rename_i h5
    have h : dist (l.getD i (0, 0, 0)) (l.getD k (0, 0, 0)) = true := decide_eq_true h
    (refine rqK rfl ?_; (repeat' first | exact rfl | (refine qS ?_; constructor)))
    rw [blB, if_neg (by omega), h]; rfl
  · rename_i h5
    have h : dist (l.getD i (0, 0, 0)) (l.getD k (0, 0, 0)) = false := decide_eq_false h
    (refine rqK rfl ?_; (repeat' first | exact rfl | (refine qS ?_; constructor)))
    rw [blB, if_neg (by omega), h]; rfl
def tryL (g : Nat → Option (Option (List Int))) : Nat → Nat → Option (List Int)
  | 0, _ => none
  | r + 1, n => match g n with
    | none => tryL g r (n + 1)
    | some o => o
/-- A device that is placed blinds one before it, or itself. -/
def blk (l : List Dv) (st : List Int) (c : Int) (k : Nat) : Bool := (List.range k).any fun j => blB l st j (st.length - 1) c
def plS (l : List Dv) (c : Nat) : Nat → List Int → Option (List Int)
  | 0, st => some st
  | f + 1, st => tryL (fun n => if blk l (st ++ [(n : Int)]) c (st.length + 1) = true then none else match plS l c f (st ++ [(n : Int)]) with
    | some o => some (some o)
    | none => if st.length = 0 then some none else none) c 0
def plV : Option (List Int) → V
  | none => .c (.d (.v (.slice none 0 0)))
  | some o => .c (ints o)
theorem tryL_pos {g : Nat → Option (Option (List Int))} {P : List Int → Prop} (h : ∀ n o, g n = some (some o) → P o) : ∀ (r n : Nat) (o : List Int), tryL g r n = some o → P o
  | 0, n, o, e => by cases e
  | r + 1, n, o, e => by
    rw [tryL] at e
    split at e
    · exact tryL_pos h r (n + 1) o e
    · rename_i q hq
      subst e
      exact h n o hq
theorem plS_len {l : List Dv} {c : Nat} : ∀ (f : Nat) (st o : List Int), plS l c f st = some o → o.length = st.length + f
  | 0, st, o, h => by simp only [plS, Option.some.injEq] at h; subst h; rfl
  | f + 1, st, o, h => by
    rw [plS] at h
    refine tryL_pos (P := fun o => o.length = st.length + (f + 1)) (fun n o hn => ?_) _ _ _ h
    split at hn
    · cases hn
    · split at hn
      · rename_i o' ho
        cases hn
        have := plS_len f _ _ ho
        simp at this; omega
      · split at hn <;> cases hn
theorem stOk_app {st : List Int} {c : Int} {n : Int} (h : stOk st c) (hn : 0 ≤ n ∧ n < c) : stOk (st ++ [n]) c := fun i hi => by
  rw [List.length_append] at hi
  by_cases h1 : i < st.length
  · have := h i h1
    simpa [List.getD_eq_getElem?_getD, List.getElem?_append_left h1] using this
  · have : i = st.length := by simp at hi; omega
    subst this
    simpa [List.getD_eq_getElem?_getD] using hn
/-- What a first start leads to. -/
def plG (l : List Dv) (c f : Nat) (st : List Int) (n : Nat) : Option (Option (List Int)) := if blk l (st ++ [(n : Int)]) c (st.length + 1) = true then none else match plS l c f (st ++ [(n : Int)]) with
    | some o => some (some o)
    | none => if st.length = 0 then some none else none
theorem plS_succ (l : List Dv) (c f : Nat) (st : List Int) : plS l c (f + 1) st = tryL (plG l c f st) c 0 := rfl
theorem blk_succ (l : List Dv) (st : List Int) (c : Int) (k : Nat) : blk l st c (k + 1) = (blk l st c k || blB l st k (st.length - 1) c) := by
  simp [blk, List.range_succ]
theorem blk_le {l : List Dv} {st : List Int} {c : Int} {k m : Nat} (hkm : k < m) (h : blB l st k (st.length - 1) c = true) : blk l st c m = true := by
  rw [blk, List.any_eq_true]; exact ⟨k, List.mem_range.2 hkm, h⟩
theorem C105 {l : List Dv} {c : Nat} (hl : DvOk l) (hc : 0 < c ∧ c ≤ 40) : ∀ (f : Nat) (st : List Int), st.length + f = l.length → stOk st c → PFD Tryz.prog 105 [.c (trs l), .c (ints st), vi .i64 c] (plV (plS l c f st))
  | 0, st, hf, hs => by
    have hn := hl.n
    rw [plS, plV]
    refine pi1 fn105 ?_
    (repeat' first | (refine Owe.same ?_; first | refine Owe.o ?_ | refine Owe.mk ?_ ?_) | (refine Fork.same ?_; (first | refine fkD ?_ ?_ | refine fkN ?_ ?_ | refine fkM ?_ ?_) <;> intro h) | refine MvQ.stay ?_)
    · (refine rqK rfl ?_; (repeat' first | exact rfl | (refine qS ?_; constructor)))
    · exfalso; omega
  | f + 1, st, hf, hs => by
    have hn := hl.n
    have ih := C105 hl hc f
    rw [plS_succ]
    obtain ⟨q, hq⟩ : ∃ q, tryL (plG l c f st) c 0 = q := ⟨_, rfl⟩
    rw [hq]
    refine pi1 fn105 ?_
    (repeat' first | (refine Owe.same ?_; first | refine Owe.o ?_ | refine Owe.mk ?_ ?_) | (refine Fork.same ?_; (first | refine fkD ?_ ?_ | refine fkN ?_ ?_ | refine fkM ?_ ?_) <;> intro h) | refine MvQ.stay ?_)
    · exfalso; omega
    refine Sat.lp0 (fun n : Nat => [(20, vi .i64 n), (19, vi .i64 c), (0, .c (trs l)), (1, .c (ints st)), (2, vi .i64 c), (7, vi .i64 st.length)]) (fun n => n ≤ c ∧ q = tryL (plG l c f st) (c - n) n) (fun n => c - n) 0 ⟨Nat.zero_le _, hq.symm⟩ (by ((first | refine qen ?_ | refine qvs ?_ | refine qeq ?_ | refine qst ?_ | refine qv ?_ | refine qc ?_ | refine qe ?_ | refine qcs ?_ | skip); (repeat' first | exact rfl | (refine qS ?_; constructor)))) ?_
    intro n hn'
    have he := hn'.2
    refine Fork.dec (fun hlt => ?_) (fun hlt => ?_)
    · have hlt : n < c := by omega
      rw [show c - n = (c - (n + 1)) + 1 by omega, tryL] at he
      have hln : (st ++ [(n : Int)]).length = st.length + 1 := by simp
      have hso : stOk (st ++ [(n : Int)]) c := stOk_app hs (by omega)
      (repeat' first | (refine Owe.same ?_; first | refine Owe.o ?_ | refine Owe.mk ?_ ?_) | (refine Fork.same ?_; (first | refine fkD ?_ ?_ | refine fkN ?_ ?_ | refine fkM ?_ ?_) <;> intro h) | ((first | refine OpsL.same ?_ | refine OpsDL.same ?_); first | refine pK C137 rfl rfl ?_) | refine MvQ.stay ?_)
      refine SatL.as 9 (.c (ints (st ++ [(n : Int)]))) (QQ.sound (.dapp ⟨_, rfl, rfl⟩)) ?_
      refine SatL.as 28 (.c (ints (st ++ [(n : Int)]))) (QQ.sound (.dapp ⟨_, rfl, rfl⟩)) ?_
      refine Sat.lp0 (fun k : Nat => [(30, vi .i64 k), (29, vi .i64 (st.length + 1 : Nat)), (28, .c (ints (st ++ [(n : Int)]))), (9, .c (ints (st ++ [(n : Int)]))), (20, vi .i64 n), (19, vi .i64 c), (0, .c (trs l)), (1, .c (ints st)), (2, vi .i64 c), (7, vi .i64 st.length)]) (fun k => k ≤ st.length + 1 ∧ blk l (st ++ [(n : Int)]) c k = false) (fun k => st.length + 1 - k) 0 ⟨Nat.zero_le _, rfl⟩ (by ((first | refine qen ?_ | refine qvs ?_ | refine qeq ?_ | refine qst ?_ | refine qv ?_ | refine qc ?_ | refine qe ?_ | refine qcs ?_ | skip); (repeat' first | exact rfl | (refine qS ?_; constructor)))) ?_
      intro k hk
      refine Fork.dec (fun hlk => ?_) (fun hlk => ?_)
      · have hlk : k < st.length + 1 := by omega
        have c121 : PFD Tryz.prog 138 _ _ := C138 (l := l) (st := st ++ [(n : Int)]) (i := k) (k := st.length) (c := c) ⟨hl, by omega, hso, by omega, by omega⟩
        have hbs := blk_succ l (st ++ [(n : Int)]) c k
        rw [show (st ++ [(n : Int)]).length - 1 = st.length by omega] at hbs
        (repeat' first | (refine Owe.same ?_; first | refine Owe.o ?_ | refine Owe.mk ?_ ?_) | (refine Fork.same ?_; (first | refine fkD ?_ ?_ | refine fkN ?_ ?_ | refine fkM ?_ ?_) <;> intro h) | ((first | refine OpsL.same ?_ | refine OpsDL.same ?_); first | refine pK c121 rfl rfl ?_) | refine MvQ.stay ?_)
        · have h : blB l (st ++ [(n : Int)]) k st.length c = true := h
          have hg : plG l c f st n = none := by
            rw [plG, if_pos]
            exact blk_le hlk (by rw [show (st ++ [(n : Int)]).length - 1 = st.length by omega]; exact h)
          rw [hg] at he
          exact again0 (n + 1) ⟨hlt, he⟩ (by omega) (by ((first | refine qen ?_ | refine qvs ?_ | refine qeq ?_ | refine qst ?_ | refine qv ?_ | refine qc ?_ | refine qe ?_ | refine qcs ?_ | skip); (repeat' first | exact rfl | (refine qS ?_; constructor))))
        · have h : blB l (st ++ [(n : Int)]) k st.length c = false := h
          exact again0 (k + 1) ⟨hlk, by rw [hbs, hk.2, h]; rfl⟩ (by omega) (by ((first | refine qen ?_ | refine qvs ?_ | refine qeq ?_ | refine qst ?_ | refine qv ?_ | refine qc ?_ | refine qe ?_ | refine qcs ?_ | skip); (repeat' first | exact rfl | (refine qS ?_; constructor))))
      · have : k = st.length + 1 := by omega
        subst this
        have c100 := ih (st ++ [(n : Int)]) (by omega) hso
        rcases hp : plS l c f (st ++ [(n : Int)]) with _ | o
        · rw [hp] at c100
          have hg : plG l c f st n = if st.length = 0 then some none else none := by
            rw [plG, if_neg (by rw [hk.2]; decide), hp]
          (repeat' first | (refine Owe.same ?_; first | refine Owe.o ?_ | refine Owe.mk ?_ ?_) | (refine Fork.same ?_; (first | refine fkD ?_ ?_ | refine fkN ?_ ?_ | refine fkM ?_ ?_) <;> intro h) | ((first | refine OpsL.same ?_ | refine OpsDL.same ?_); first | refine pK c100 rfl rfl ?_) | refine MvQ.stay ?_)
          · have h : st.length = 0 := by omega
            rw [hg, if_pos h] at he
            have he : q = none := he
            subst he
            rw [plV]
            (refine rqK rfl ?_; (repeat' first | exact rfl | (refine qS ?_; constructor)))
          · rw [hg, if_neg (by omega)] at he
            exact again0 (n + 1) ⟨hlt, he⟩ (by omega) (by ((first | refine qen ?_ | refine qvs ?_ | refine qeq ?_ | refine qst ?_ | refine qv ?_ | refine qc ?_ | refine qe ?_ | refine qcs ?_ | skip); (repeat' first | exact rfl | (refine qS ?_; constructor))))
        · rw [hp] at c100
          have hlo := plS_len _ _ _ hp
          have hg : plG l c f st n = some (some o) := by
            rw [plG, if_neg (by rw [hk.2]; decide), hp]
          rw [hg] at he
          have he : q = some o := he
          subst he
          rw [plV] at c100 ⊢
          (repeat' first | (refine Owe.same ?_; first | refine Owe.o ?_ | refine Owe.mk ?_ ?_) | (refine Fork.same ?_; (first | refine fkD ?_ ?_ | refine fkN ?_ ?_ | refine fkM ?_ ?_) <;> intro h) | ((first | refine OpsL.same ?_ | refine OpsDL.same ?_); first | refine pK c100 rfl rfl ?_) | refine MvQ.stay ?_)
          (refine rqK rfl ?_; (repeat' first | exact rfl | (refine qS ?_; constructor)))
    · (repeat' first | (refine Owe.same ?_; first | refine Owe.o ?_ | refine Owe.mk ?_ ?_) | (refine Fork.same ?_; (first | refine fkD ?_ ?_ | refine fkN ?_ ?_ | refine fkM ?_ ?_) <;> intro h) | refine MvQ.stay ?_)
      have : n = c := by omega
      subst this
      rw [Nat.sub_self, tryL] at he
      subst he
      rw [plV]
      (refine rqK rfl ?_; (repeat' first | exact rfl | (refine qS ?_; constructor)))
end Go.Pw

set_option linter.unusedSimpArgs false
set_option linter.unusedVariables false
namespace Go.Pw
set_option maxRecDepth 2000
open Go Go.Proofs A1 A2 A3 A4
abbrev Tn := Int × List Int
abbrev tv (t : Tn) : V := .agg [int t.1, ints t.2]
theorem cyE_ok {n : Int} : cyE n = 0 ↔ 1 ≤ n ∧ n ≤ 40 := by rw [cyE, unl0 (by decide)]
theorem fst2 {a b : Int} : fstE [a, b] = 0 ↔ a = 0 ∧ b = 0 := by rw [fst0, fst0]; simp only [fst_nil, and_true]
/-- The first turns of a cycle. -/
def ftR (l : List Dv) (c : Int) : Tn × Int := if fstE [(dvsE l).2, cyE c] = 0 then match plS l c.toNat l.length [] with
    | none => ((0, []), 12)
    | some o => ((c, o), 0)
  else ((0, []), fstE [(dvsE l).2, cyE c])
theorem C67 {l : List Dv} {c : Int} : l.length ≤ 1000000 → PFD Tryz.prog 67 [.c (trs l), vi .i64 c] (.tup [tv (ftR l c).1, vi .i64 (ftR l c).2]) := fun hl => by
  have c95 := C47 hl
  by_cases h0 : fstE [(dvsE l).2, cyE c] = 0
  · obtain ⟨h1, h2⟩ := fst2.1 h0
    have hO := dvsE_ok.1 h1
    have hc := cyE_ok.1 h2
    have e : ((c.toNat : Nat) : Int) = c := by omega
    have c100 := C105 (c := c.toNat) hO (by omega) l.length [] (by simp) (fun i hi => by cases hi)
    rw [e] at c100
    rcases hp : plS l c.toNat l.length [] with _ | o
    · rw [hp, plV] at c100
      have hr : ftR l c = ((0, []), 12) := by rw [ftR, if_pos h0, hp]
      rw [hr]
      refine pi2 fn67 ?_
      (repeat' first | (refine Owe.same ?_; first | refine Owe.o ?_ | refine Owe.mk ?_ ?_) | (refine Fork.same ?_; (first | refine fkD ?_ ?_ | refine fkN ?_ ?_ | refine fkM ?_ ?_) <;> intro h) | ((first | refine OpsL.same ?_ | refine OpsDL.same ?_); first | refine pK c95 rfl rfl ?_ | refine pK C104 rfl rfl ?_ | refine pK C55 rfl rfl ?_ | refine pK c100 rfl rfl ?_) | refine MvQ.stay ?_)
      · exact absurd h0 h
      · (refine rqK rfl ?_; (repeat' first | exact rfl | (refine qS ?_; constructor)))
    · have hlo := plS_len _ _ _ hp
      have hn := hO.n
      rw [hp, plV] at c100
      have hr : ftR l c = ((c, o), 0) := by rw [ftR, if_pos h0, hp]
      rw [hr]
      refine pi2 fn67 ?_
      (repeat' first | (refine Owe.same ?_; first | refine Owe.o ?_ | refine Owe.mk ?_ ?_) | (refine Fork.same ?_; (first | refine fkD ?_ ?_ | refine fkN ?_ ?_ | refine fkM ?_ ?_) <;> intro h) | ((first | refine OpsL.same ?_ | refine OpsDL.same ?_); first | refine pK c95 rfl rfl ?_ | refine pK C104 rfl rfl ?_ | refine pK C55 rfl rfl ?_ | refine pK c100 rfl rfl ?_) | refine MvQ.stay ?_)
      · exact absurd h0 h
      · (refine rqK rfl ?_; (repeat' first | exact rfl | (refine qS ?_; constructor)))
  · have hr : ftR l c = ((0, []), fstE [(dvsE l).2, cyE c]) := by rw [ftR, if_neg h0]
    rw [hr]
    refine pi2 fn67 ?_
    (repeat' first | (refine Owe.same ?_; first | refine Owe.o ?_ | refine Owe.mk ?_ ?_) | (refine Fork.same ?_; (first | refine fkD ?_ ?_ | refine fkN ?_ ?_ | refine fkM ?_ ?_) <;> intro h) | ((first | refine OpsL.same ?_ | refine OpsDL.same ?_); first | refine pK c95 rfl rfl ?_ | refine pK C104 rfl rfl ?_ | refine pK C55 rfl rfl ?_) | refine MvQ.stay ?_)
    · (refine rqK rfl ?_; (repeat' first | exact rfl | (refine qS ?_; constructor)))
    · exact absurd h h0
def findT (l : List Dv) : Nat → Int → Tn × Int
  | 0, _ => ((0, []), 12)
  | r + 1, c => if (ftR l c).2 = 0 then ((ftR l c).1, 0) else findT l r (c + 1)
/-- The shortest turns. -/
def shR (l : List Dv) : Tn × Int := if (dvsE l).2 = 0 then findT l (41 + (bdK l).p).toNat (-(bdK l).p) else ((0, []), (dvsE l).2)
theorem C30 {l : List Dv} : l.length ≤ 1000000 → PFD Tryz.prog 30 [.c (trs l)] (.tup [tv (shR l).1, vi .i64 (shR l).2]) := fun hl => by
  have c73 := C66 hl
  by_cases h0 : (dvsE l).2 = 0
  · have hO := dvsE_ok.1 h0
    have hp := bestK_lo (c := bdC l) (n := l.length) (lo := -100) (by decide) (fun b => bdC_bd hO b) (2 ^ l.length)
    have hr : shR l = findT l (41 + (bdK l).p).toNat (-(bdK l).p) := by rw [shR, if_pos h0]
    rw [if_pos h0, if_pos h0, h0] at c73
    generalize (bdK l).p = p at c73 hp hr
    rw [hr]
    generalize hq : findT l (41 + p).toNat (-p) = q
    refine pi2 fn30 ?_
    (repeat' first | (refine Owe.same ?_; first | refine Owe.o ?_ | refine Owe.mk ?_ ?_) | (refine Fork.same ?_; (first | refine fkD ?_ ?_ | refine fkN ?_ ?_ | refine fkM ?_ ?_) <;> intro h) | ((first | refine OpsL.same ?_ | refine OpsDL.same ?_); first | refine pK c73 rfl rfl ?_) | refine MvQ.stay ?_)
    · exact absurd rfl h
    obtain ⟨b, hb⟩ : ∃ b : Nat, -p = b := ⟨(-p).toNat, by omega⟩
    have hb2 : b ≤ 100 := by omega
    have hq2 : findT l (41 - b) b = q := by rw [← hq, hb]; congr 1; omega
    refine Sat.lp (fun k : Nat => ⟨[(7, vi .i64 k), (2, .c (.bp 0 0)), (0, .c (trs l))], [(0, .box [int 0, .d (.v (.slice none 0 0))])], 1⟩) (fun k => k ≤ 101 ∧ b ≤ k ∧ q = findT l (41 - k) k) (fun k => 101 - k) b [0] ⟨by omega, by omega, hq2.symm⟩ ?_ ?_
    · (refine qis ?_ ?_ <;> (repeat' first | exact rfl | (refine qS ?_; constructor)))
      exact hb
    · intro k hk
      refine Fork.dec (fun hlt => ?_) (fun hlt => ?_)
      · have hlt : k < 41 := by omega
        have he := hk.2.2
        rw [show 41 - k = (41 - (k + 1)) + 1 by omega, findT] at he
        have c74 := C67 (l := l) (c := k) hl
        (repeat' first | (refine Owe.same ?_; first | refine Owe.o ?_ | refine Owe.mk ?_ ?_) | (refine Fork.same ?_; (first | refine fkD ?_ ?_ | refine fkN ?_ ?_ | refine fkM ?_ ?_) <;> intro h) | ((first | refine OpsL.same ?_ | refine OpsDL.same ?_); first | refine pK c74 rfl rfl ?_) | refine MvQ.stay ?_)
        · have h : (ftR l k).2 = 0 := h
          rw [if_pos h] at he
          subst he
          (refine rqK rfl ?_; (repeat' first | exact rfl | (refine qS ?_; constructor)))
        · have h : ¬ (ftR l k).2 = 0 := h
          rw [if_neg h] at he
          refine again (k + 1) [0] ⟨by omega, by omega, he⟩ (by omega) ?_
          (refine qis ?_ ?_ <;> (repeat' first | exact rfl | (refine qS ?_; constructor)))
      · have he := hk.2.2
        rw [show 41 - k = 0 by omega, findT] at he
        subst he
        (repeat' first | (refine Owe.same ?_; first | refine Owe.o ?_ | refine Owe.mk ?_ ?_) | (refine Fork.same ?_; (first | refine fkD ?_ ?_ | refine fkN ?_ ?_ | refine fkM ?_ ?_) <;> intro h) | refine MvQ.stay ?_)
        (refine rqK rfl ?_; (repeat' first | exact rfl | (refine qS ?_; constructor)))
  · have hr : shR l = ((0, []), (dvsE l).2) := by rw [shR, if_neg h0]
    rw [hr]
    rw [if_neg h0, if_neg h0] at c73
    refine pi2 fn30 ?_
    (repeat' first | (refine Owe.same ?_; first | refine Owe.o ?_ | refine Owe.mk ?_ ?_) | (refine Fork.same ?_; (first | refine fkD ?_ ?_ | refine fkN ?_ ?_ | refine fkM ?_ ?_) <;> intro h) | ((first | refine OpsL.same ?_ | refine OpsDL.same ?_); first | refine pK c73 rfl rfl ?_) | refine MvQ.stay ?_)
    · (refine rqK rfl ?_; (repeat' first | exact rfl | (refine qS ?_; constructor)))
    · exact absurd h h0
end Go.Pw

set_option linter.unusedSimpArgs false
set_option linter.unusedVariables false
namespace Go.Pw
set_option maxRecDepth 2000
open Go Go.Proofs A1 A2 A3 A4
abbrev lyOk (x : Dv) : Prop := (1 ≤ x.1 ∧ x.1 ≤ 10000) ∧ (1 ≤ x.2.1 ∧ x.2.1 ≤ 100) ∧ 1 ≤ x.2.2 ∧ x.2.2 ≤ 100
/-- The error of a layer. -/
def lyE (x : Dv) : Int := fstE [unl (lyOk x) 2, unl (x.2.1 ≤ x.2.2) 9]
theorem lyE_of {x : Dv} {p : Bool} (_h : ¬ fstE [unb p 2, unb (decide (x.2.1 ≤ x.2.2)) 9] = 0) (hp : p = decide (lyOk x)) : lyE x = fstE [unb p 2, unb (decide (x.2.1 ≤ x.2.2)) 9] := by subst hp; rfl
theorem lyE_of0 {x : Dv} {p : Bool} (h : fstE [unb p 2, unb (decide (x.2.1 ≤ x.2.2)) 9] = 0) (hp : p = decide (lyOk x)) : lyE x = 0 := by subst hp; exact h
theorem C141 {n : Int} : PFD Tryz.prog 141 [vi .i64 n] (vbl (decide (1 ≤ n ∧ n ≤ 100))) := by
  refine pi1 fn141 ?_
  (repeat' first | (refine Owe.same ?_; first | refine Owe.o ?_ | refine Owe.mk ?_ ?_) | (refine Fork.same ?_; (first | refine fkD ?_ ?_ | refine fkN ?_ ?_ | refine fkM ?_ ?_) <;> intro h) | ((first | refine OpsL.same ?_ | refine OpsDL.same ?_); first | refine pK C69 rfl rfl ?_) | refine MvQ.stay ?_)
  (refine rqK rfl ?_; (repeat' first | exact rfl | (refine qS ?_; constructor)))
/-- The error of layers, with an index. -/
def lysE (l : List Dv) : Int × Int := if cntE l.length 6 = 0 then eachE lyE 0 l else (0, cntE l.length 6)
theorem C108 {l : List Dv} : l.length ≤ 1000000 → PFD Tryz.prog 108 [.c (trs l)] (.tup [vi .i64 (lysE l).1, vi .i64 (lysE l).2]) := fun hl => by
  refine pi2 fn108 ?_
  (repeat' first | (refine Owe.same ?_; first | refine Owe.o ?_ | refine Owe.mk ?_ ?_) | (refine Fork.same ?_; (first | refine fkD ?_ ?_ | refine fkN ?_ ?_ | refine fkM ?_ ?_) <;> intro h) | ((first | refine OpsL.same ?_ | refine OpsDL.same ?_); first | refine pK C127 rfl rfl ?_) | refine MvQ.stay ?_)
  · have h : ¬ cntE l.length 6 = 0 := h
    (refine rqK rfl ?_; (repeat' first | exact rfl | (refine qS ?_; constructor))) <;> rw [lysE, if_neg h]
  · have h : cntE l.length 6 = 0 := h
    have hr : lysE l = eachE lyE 0 l := by rw [lysE, if_pos h]
    rw [hr]
    refine Ops.cs rfl rfl (CallS.of fn142 rfl ?_)
    (repeat' first | (refine Owe.same ?_; first | refine Owe.o ?_ | refine Owe.mk ?_ ?_) | (refine Fork.same ?_; (first | refine fkD ?_ ?_ | refine fkN ?_ ?_ | refine fkM ?_ ?_) <;> intro h) | refine MvQ.stay ?_)
    refine Sat.lp (fun k : Nat => ⟨[(11, vi .i64 k), (10, vi .i64 l.length), (9, .c (trs l)), (1, .c (.fn 143 [0]))], [(0, .box [.fn 141 []])], 1⟩) (fun k => k ≤ l.length ∧ eachE lyE 0 l = eachE lyE k (l.drop k)) (fun k => l.length - k) 0 [] ⟨Nat.zero_le _, rfl⟩ ?_ ?_
    · (refine qis ?_ ?_ <;> (repeat' first | exact rfl | (refine qS ?_; constructor)))
    · intro k hk
      refine Fork.dec (fun hlt => ?_) (fun hlt => ?_)
      · have hlt : k < l.length := by omega
        (repeat' first | (refine Owe.same ?_; first | refine Owe.o ?_ | refine Owe.mk ?_ ?_) | (refine Fork.same ?_; (first | refine fkD ?_ ?_ | refine fkN ?_ ?_ | refine fkM ?_ ?_) <;> intro h) | refine MvQ.stay ?_)
        refine Ops.cs rfl rfl (CallS.of fn143 rfl ?_)
        (repeat' first | (refine Owe.same ?_; first | refine Owe.o ?_ | refine Owe.mk ?_ ?_) | (refine Fork.same ?_; (first | refine fkD ?_ ?_ | refine fkN ?_ ?_ | refine fkM ?_ ?_) <;> intro h) | ((first | refine OpsL.same ?_ | refine OpsDL.same ?_); first | refine pK C69 rfl rfl ?_ | refine pK C141 rfl rfl ?_ | refine pK C56 rfl rfl ?_ | refine pK C55 rfl rfl ?_) | refine MvQ.stay ?_)
        all_goals have e := eachE_drop lyE (0, 0, 0) l k hlt
        all_goals first
          | have e1 := lyE_of0 (x := l.getD (k : Int).toNat (0, 0, 0)) h (by rw [Bool.eq_iff_iff]; (try simp only [decide_eq_true_eq, Bool.false_eq_true, false_iff]); omega)
            have e1 : lyE (l.getD k (0, 0, 0)) = 0 := e1
            rw [if_pos e1, ← hk.2] at e
            refine again (k + 1) [] ⟨by omega, e⟩ (by omega) ?_
            (refine qis ?_ ?_ <;> (repeat' first | exact rfl | (refine qS ?_; constructor)))
          | have e1 := lyE_of (x := l.getD (k : Int).toNat (0, 0, 0)) h (by rw [Bool.eq_iff_iff]; (try simp only [decide_eq_true_eq, Bool.false_eq_true, false_iff]); omega)
            rw [← e1] at h
            have h : ¬ lyE (l.getD k (0, 0, 0)) = 0 := h
            rw [if_neg h, ← hk.2] at e
            (refine rqK rfl ?_; (repeat' first | exact rfl | (refine qS ?_; constructor)))
            · rw [e]
            · rw [e]; exact e1.symm
      · (repeat' first | (refine Owe.same ?_; first | refine Owe.o ?_ | refine Owe.mk ?_ ?_) | (refine Fork.same ?_; (first | refine fkD ?_ ?_ | refine fkN ?_ ?_ | refine fkM ?_ ?_) <;> intro h) | refine MvQ.stay ?_)
        have e : eachE lyE 0 l = (0, 0) := by rw [hk.2, List.drop_of_length_le (by omega)]; rfl
        (refine rqK rfl ?_; (repeat' first | exact rfl | (refine qS ?_; constructor))) <;> rw [e]
theorem C76 {x : Dv} : PFD Tryz.prog 76 [tr x] (vi .i64 x.2.1) := by
  refine pi1 fn76 ?_
  (repeat' first | (refine Owe.same ?_; first | refine Owe.o ?_ | refine Owe.mk ?_ ?_) | (refine Fork.same ?_; (first | refine fkD ?_ ?_ | refine fkN ?_ ?_ | refine fkM ?_ ?_) <;> intro h) | refine MvQ.stay ?_)
  (refine rqK rfl ?_; (repeat' first | exact rfl | (refine qS ?_; constructor)))
theorem C78 {x : Dv} : PFD Tryz.prog 78 [tr x] (vi .i64 x.2.2) := by
  refine pi1 fn78 ?_
  (repeat' first | (refine Owe.same ?_; first | refine Owe.o ?_ | refine Owe.mk ?_ ?_) | (refine Fork.same ?_; (first | refine fkD ?_ ?_ | refine fkN ?_ ?_ | refine fkM ?_ ?_) <;> intro h) | refine MvQ.stay ?_)
  (refine rqK rfl ?_; (repeat' first | exact rfl | (refine qS ?_; constructor)))
/-- The error of layers, and of a number with a limit. -/
def lsE (l : List Dv) (n m : Int) : Int := fstE [(lysE l).2, unl (0 ≤ n ∧ n ≤ m) 2]
theorem C74 {l : List Dv} {n m : Int} : l.length ≤ 1000000 → PFD Tryz.prog 74 [.c (trs l), vi .i64 n, vi .i64 m] (vi .i64 (lsE l n m)) := fun hl => by
  refine pi1 fn74 ?_
  (repeat' first | (refine Owe.same ?_; first | refine Owe.o ?_ | refine Owe.mk ?_ ?_) | (refine Fork.same ?_; (first | refine fkD ?_ ?_ | refine fkN ?_ ?_ | refine fkM ?_ ?_) <;> intro h) | ((first | refine OpsL.same ?_ | refine OpsDL.same ?_); first | refine pK (C108 hl) rfl rfl ?_ | refine pK C69 rfl rfl ?_ | refine pK C56 rfl rfl ?_ | refine pK C55 rfl rfl ?_) | refine MvQ.stay ?_)
  (refine rqK rfl ?_; (repeat' first | exact rfl | (refine qS ?_; constructor)))
theorem C144 {a b : Nat} : (a ≤ 4000000000000000000 ∧ b ≤ 4000000000000000000) → PFD Tryz.prog 144 [vi .i64 a, vi .i64 b] (vi .i64 (Nat.gcd a b)) := fun ⟨ha, hb⟩ => by
  refine pi1 fn144 ?_
  (repeat' first | (refine Owe.same ?_; first | refine Owe.o ?_ | refine Owe.mk ?_ ?_) | (refine Fork.same ?_; (first | refine fkD ?_ ?_ | refine fkN ?_ ?_ | refine fkM ?_ ?_) <;> intro h) | refine MvQ.stay ?_)
  refine Sat.lp0 (fun p : Nat × Nat => [(0, vi .i64 p.1), (1, vi .i64 p.2)]) (fun p => (p.1 ≤ 4000000000000000000 ∧ p.2 ≤ 4000000000000000000) ∧ Nat.gcd p.1 p.2 = Nat.gcd a b) (fun p => p.2) (a, b) ⟨⟨ha, hb⟩, rfl⟩ (by ((first | refine qen ?_ | refine qvs ?_ | refine qeq ?_ | refine qst ?_ | refine qv ?_ | refine qc ?_ | refine qe ?_ | refine qcs ?_ | skip); (repeat' first | exact rfl | (refine qS ?_; constructor)))) ?_
  intro p hp
  obtain ⟨p1, p2⟩ := p
  simp only at hp ⊢
  (repeat' first | (refine Owe.same ?_; first | refine Owe.o ?_ | refine Owe.mk ?_ ?_) | (refine Fork.same ?_; (first | refine fkD ?_ ?_ | refine fkN ?_ ?_ | refine fkM ?_ ?_) <;> intro h) | refine MvQ.stay ?_)
  · have hm : p1 % p2 < p2 := Nat.mod_lt _ (by omega)
    refine again0 (p2, p1 % p2) ⟨⟨hp.1.2, by omega⟩, ?_⟩ hm (by ((first | refine qen ?_ | refine qvs ?_ | refine qeq ?_ | refine qst ?_ | refine qv ?_ | refine qc ?_ | refine qe ?_ | refine qcs ?_ | skip); (repeat' first | exact rfl | (refine qS ?_; constructor))))
    rw [← hp.2, Nat.gcd_comm p1 p2, Nat.gcd_rec p2 p1, Nat.gcd_comm]
  · have h0 : p2 = 0 := by omega
    subst h0
    rw [← hp.2, Nat.gcd_zero_right]
    (refine rqK rfl ?_; (repeat' first | exact rfl | (refine qS ?_; constructor)))
abbrev Qt := Nat × Nat
abbrev qtv (q : Qt) : V := .agg [int (q.1 : Int), int (q.2 : Int)]
def plusQ (q o : Qt) : Qt :=
  ((q.1 * (o.2 / Nat.gcd q.2 o.2) + o.1 * (q.2 / Nat.gcd q.2 o.2)) / Nat.gcd (q.1 * (o.2 / Nat.gcd q.2 o.2) + o.1 * (q.2 / Nat.gcd q.2 o.2)) (q.2 / Nat.gcd q.2 o.2 * o.2),
   (q.2 / Nat.gcd q.2 o.2 * o.2) / Nat.gcd (q.1 * (o.2 / Nat.gcd q.2 o.2) + o.1 * (q.2 / Nat.gcd q.2 o.2)) (q.2 / Nat.gcd q.2 o.2 * o.2))
theorem C77 {q : Qt} : (0 < q.2 ∧ q.1 ≤ 4000000000000000000) → PFD Tryz.prog 77 [qtv q] (vi .i64 (q.1 / q.2 : Nat)) := fun hq => by
  refine pi1 fn77 ?_
  have e : (q.1 : Int).tdiv q.2 = ((q.1 / q.2 : Nat) : Int) := rfl
  have b : q.1 / q.2 ≤ q.1 := Nat.div_le_self _ _
  generalize q.1 / q.2 = d at *
  have ho : (q.2 : Int) ≠ 0 ∧ R64 ((q.1 : Int).tdiv q.2) := by rw [e]; exact ⟨by omega, ob⟩
  refine Owe.mk ho ?_
  (refine rqK rfl ?_; (repeat' first | exact rfl | (refine qS ?_; constructor)))
  exact e
theorem C79 {q : Qt} : (0 < q.2 ∧ q.1 ≤ 4000000000000000000 ∧ q.2 ≤ 4000000000000000000) → PFD Tryz.prog 79 [qtv q] (vi .i64 ((q.1 + q.2 - 1) / q.2 : Nat)) := fun hq => by
  refine pi1 fn79 ?_
  have e0 : ((q.1 : Int) + q.2 - 1) = ((q.1 + q.2 - 1 : Nat) : Int) := by omega
  have e : ((q.1 : Int) + q.2 - 1).tdiv q.2 = (((q.1 + q.2 - 1) / q.2 : Nat) : Int) := by rw [e0]; rfl
  have b : (q.1 + q.2 - 1) / q.2 ≤ q.1 + q.2 - 1 := Nat.div_le_self _ _
  generalize (q.1 + q.2 - 1) / q.2 = d at *
  have ho : (q.2 : Int) ≠ 0 ∧ R64 (((q.1 : Int) + q.2 - 1).tdiv q.2) := by rw [e]; exact ⟨by omega, ob⟩
  (repeat' first | (refine Owe.same ?_; first | refine Owe.o ?_ | refine Owe.mk ?_ ?_) | (refine Fork.same ?_; (first | refine fkD ?_ ?_ | refine fkN ?_ ?_ | refine fkM ?_ ?_) <;> intro h) | refine MvQ.stay ?_)
  (refine rqK rfl ?_; (repeat' first | exact rfl | (refine qS ?_; constructor)))
  exact e
theorem C109 {q o : Qt} : ((0 < q.2 ∧ 0 < o.2) ∧ (q.1 * o.2 + o.1 * q.2 ≤ 4000000000000000000 ∧ q.2 * o.2 ≤ 4000000000000000000) ∧ (q.1 ≤ 4000000000000000000 ∧ o.1 ≤ 4000000000000000000) ∧ q.2 ≤ 4000000000000000000 ∧ o.2 ≤ 4000000000000000000) → PFD Tryz.prog 109 [qtv q, qtv o] (qtv (plusQ q o)) := fun ⟨hp, hb, hd⟩ => by
  refine pi1 fn109 ?_
  have g0 : 0 < Nat.gcd q.2 o.2 := Nat.gcd_pos_of_pos_left _ hp.1
  have d1 : o.2 / Nat.gcd q.2 o.2 ≤ o.2 := Nat.div_le_self _ _
  have d2 : q.2 / Nat.gcd q.2 o.2 ≤ q.2 := Nat.div_le_self _ _
  have d3 : 0 < q.2 / Nat.gcd q.2 o.2 := Nat.div_pos (Nat.le_of_dvd hp.1 (Nat.gcd_dvd_left _ _)) g0
  have m1 : q.1 * (o.2 / Nat.gcd q.2 o.2) ≤ q.1 * o.2 := Nat.mul_le_mul_left _ d1
  have m2 : o.1 * (q.2 / Nat.gcd q.2 o.2) ≤ o.1 * q.2 := Nat.mul_le_mul_left _ d2
  have m3 : q.2 / Nat.gcd q.2 o.2 * o.2 ≤ q.2 * o.2 := Nat.mul_le_mul_right _ d2
  have m4 : 0 < q.2 / Nat.gcd q.2 o.2 * o.2 := Nat.mul_pos d3 hp.2
  have e1 : (o.2 : Int).tdiv (Nat.gcd q.2 o.2 : Nat) = ((o.2 / Nat.gcd q.2 o.2 : Nat) : Int) := rfl
  have e2 : (q.2 : Int).tdiv (Nat.gcd q.2 o.2 : Nat) = ((q.2 / Nat.gcd q.2 o.2 : Nat) : Int) := rfl
  rw [plusQ]
  have c1 := C144 (a := q.2) (b := o.2) ⟨by omega, by omega⟩
  generalize Nat.gcd q.2 o.2 = g at *
  generalize o.2 / g = x at *
  generalize q.2 / g = y at *
  have M1 : 0 ≤ (q.1 : Int) * (o.2 : Int).tdiv g ∧ (q.1 : Int) * (o.2 : Int).tdiv g = ((q.1 * x : Nat) : Int) := by rw [e1]; exact ⟨Int.mul_nonneg (by omega) (by omega), by rw [Int.natCast_mul]⟩
  have M2 : 0 ≤ (o.1 : Int) * (q.2 : Int).tdiv g ∧ (o.1 : Int) * (q.2 : Int).tdiv g = ((o.1 * y : Nat) : Int) := by rw [e2]; exact ⟨Int.mul_nonneg (by omega) (by omega), by rw [Int.natCast_mul]⟩
  have M3 : 0 ≤ (q.2 : Int).tdiv g * (o.2 : Int) ∧ (q.2 : Int).tdiv g * (o.2 : Int) = ((y * o.2 : Nat) : Int) := by rw [e2]; exact ⟨Int.mul_nonneg (by omega) (by omega), by rw [Int.natCast_mul]⟩
  have c2 := C144 (a := q.1 * x + o.1 * y) (b := y * o.2) ⟨by omega, by omega⟩
  have G0 : 0 < Nat.gcd (q.1 * x + o.1 * y) (y * o.2) := Nat.gcd_pos_of_pos_right _ m4
  have eA : (q.1 : Int) * (o.2 : Int).tdiv g + (o.1 : Int) * (q.2 : Int).tdiv g = ((q.1 * x + o.1 * y : Nat) : Int) := by rw [M1.2, M2.2]; omega
  rw [← eA, ← M3.2] at c2
  have D1 : (q.1 * x + o.1 * y) / Nat.gcd (q.1 * x + o.1 * y) (y * o.2) ≤ q.1 * x + o.1 * y := Nat.div_le_self _ _
  have D2 : y * o.2 / Nat.gcd (q.1 * x + o.1 * y) (y * o.2) ≤ y * o.2 := Nat.div_le_self _ _
  have E1 : ((q.1 : Int) * (o.2 : Int).tdiv g + (o.1 : Int) * (q.2 : Int).tdiv g).tdiv (Nat.gcd (q.1 * x + o.1 * y) (y * o.2) : Nat) = (((q.1 * x + o.1 * y) / Nat.gcd (q.1 * x + o.1 * y) (y * o.2) : Nat) : Int) := by rw [eA]; rfl
  have E2 : ((q.2 : Int).tdiv g * (o.2 : Int)).tdiv (Nat.gcd (q.1 * x + o.1 * y) (y * o.2) : Nat) = ((y * o.2 / Nat.gcd (q.1 * x + o.1 * y) (y * o.2) : Nat) : Int) := by rw [M3.2]; rfl
  generalize Nat.gcd (q.1 * x + o.1 * y) (y * o.2) = G at *
  generalize (q.1 * x + o.1 * y) / G = a at *
  generalize y * o.2 / G = b at *
  (repeat' first | (refine Owe.same ?_; first | refine Owe.o ?_ | refine Owe.mk ?_ ?_) | (refine Fork.same ?_; (first | refine fkD ?_ ?_ | refine fkN ?_ ?_ | refine fkM ?_ ?_) <;> intro h) | refine MvQ.stay ?_)
  ((first | refine OpsL.same ?_ | refine OpsDL.same ?_); refine pK c1 rfl rfl ?_)
  (repeat' first | (refine Owe.same ?_; first | refine Owe.o ?_ | refine Owe.mk ?_ ?_) | (refine Fork.same ?_; (first | refine fkD ?_ ?_ | refine fkN ?_ ?_ | refine fkM ?_ ?_) <;> intro h) | refine MvQ.stay ?_)
  ((first | refine OpsL.same ?_ | refine OpsDL.same ?_); refine pK c2 rfl rfl ?_)
  (repeat' first | (refine Owe.same ?_; first | refine Owe.o ?_ | refine Owe.mk ?_ ?_) | (refine Fork.same ?_; (first | refine fkD ?_ ?_ | refine fkN ?_ ?_ | refine fkM ?_ ?_) <;> intro h) | refine MvQ.stay ?_)
  (refine rqK rfl ?_; (repeat' first | exact rfl | (refine qS ?_; constructor)))
  · exact E1
  · exact E2
end Go.Pw

set_option linter.unusedSimpArgs false
set_option linter.unusedVariables false
namespace Go.Pw
set_option maxRecDepth 2000
open Go Go.Proofs A1 A2 A3 A4
def lyQ (t v : Int) : Qt := (t.toNat, v.toNat)
/-- The depth after a time, with chosen speeds. -/
def deepS (sp : Dv → Int) (T : Nat) : List Dv → Qt → Nat → Qt
  | [], p, _ => p
  | x :: r, p, top => if r = [] ∨ T * (plusQ p (lyQ x.1 (sp x))).2 < (plusQ p (lyQ x.1 (sp x))).1 then (top * p.2 + (T * p.2 - p.1) * (sp x).toNat, p.2)
    else deepS sp T r (plusQ p (lyQ x.1 (sp x))) (top + x.1.toNat)
structure LyOk (l : List Dv) : Prop where
  n : 0 < l.length ∧ l.length ≤ 6
  ok : ∀ i, i < l.length → lyOk (l.getD i (0, 0, 0)) ∧ (l.getD i (0, 0, 0)).2.1 ≤ (l.getD i (0, 0, 0)).2.2
theorem deepS_drop {sp : Dv → Int} {T : Nat} {l : List Dv} {k : Nat} {p : Qt} {top : Nat} (hk : k < l.length) : deepS sp T (l.drop k) p top =
    (fun x : Dv => if k = l.length - 1 ∨ T * (plusQ p (lyQ x.1 (sp x))).2 < (plusQ p (lyQ x.1 (sp x))).1 then (top * p.2 + (T * p.2 - p.1) * (sp x).toNat, p.2)
    else deepS sp T (l.drop (k + 1)) (plusQ p (lyQ x.1 (sp x))) (top + x.1.toNat)) (l.getD k (0, 0, 0)) := by
  have e : l.drop k = l.getD k (0, 0, 0) :: l.drop (k + 1) := by
    rw [List.getD_eq_getElem?_getD, List.getElem?_eq_getElem hk]; exact List.drop_eq_getElem_cons hk
  rw [e]
  have e2 : (l.drop (k + 1) = []) = (k = l.length - 1) := by
    apply propext; rw [List.drop_eq_nil_iff]; omega
  simp only [deepS, e2]
theorem plusQ_pos {q o : Qt} (hq : 0 < q.2) (ho : 0 < o.2) : 0 < (plusQ q o).2 := by
  have g0 : 0 < Nat.gcd q.2 o.2 := Nat.gcd_pos_of_pos_left _ hq
  have h : 0 < q.2 / Nat.gcd q.2 o.2 * o.2 := Nat.mul_pos (Nat.div_pos (Nat.le_of_dvd hq (Nat.gcd_dvd_left _ _)) g0) ho
  exact Nat.div_pos (Nat.le_of_dvd h (Nat.gcd_dvd_right _ _)) (Nat.gcd_pos_of_pos_right _ h)
theorem plusQ_den {q o : Qt} : (plusQ q o).2 ≤ q.2 * o.2 := Nat.le_trans (Nat.div_le_self _ _) (Nat.mul_le_mul_right _ (Nat.div_le_self _ _))
theorem C75 {g : FuncId} {sp : Dv → Int} (hg : ∀ x : Dv, PFD Tryz.prog g [tr x] (vi .i64 (sp x))) {l : List Dv} {T : Nat} :
    (LyOk l ∧ (∀ i, i < l.length → 1 ≤ sp (l.getD i (0, 0, 0)) ∧ sp (l.getD i (0, 0, 0)) ≤ 100) ∧ T ≤ 100000) → PFD Tryz.prog 75 [.c (trs l), vi .i64 T, .c (.fn g [])] (qtv (deepS sp T l (0, 1) 0)) := fun ⟨hO, hs, hT⟩ => by
  have hn := hO.n
  obtain ⟨q, hq⟩ : ∃ q, q = deepS sp T l (0, 1) 0 := ⟨_, rfl⟩
  rw [← hq]
  refine pi1 fn75 ?_
  (repeat' first | (refine Owe.same ?_; first | refine Owe.o ?_ | refine Owe.mk ?_ ?_) | (refine Fork.same ?_; (first | refine fkD ?_ ?_ | refine fkN ?_ ?_ | refine fkM ?_ ?_) <;> intro h) | refine MvQ.stay ?_)
  refine Sat.lp (fun s : Nat × Qt × Nat => ⟨[(16, vi .i64 s.1), (15, vi .i64 l.length), (14, .c (trs l)), (0, .c (trs l)), (1, vi .i64 T), (2, .c (.fn g [])), (8, vi .i64 s.2.2), (6, .c (.bp 0 0)), (7, .c (.bp 1 0))], [(1, .box [int s.2.1.1, int s.2.1.2]), (0, .box [int 0, int 0])], 2⟩)
    (fun s => s.1 ≤ l.length ∧ q = deepS sp T (l.drop s.1) s.2.1 s.2.2 ∧ (0 < s.2.1.2 ∧ s.2.1.2 ≤ 100 ^ s.1) ∧ s.2.1.1 ≤ T * s.2.1.2 ∧ s.2.2 ≤ 10000 * s.1) (fun s => l.length - s.1) (0, (0, 1), 0) [0, 1] ⟨Nat.zero_le _, hq, ⟨by decide, by decide⟩, by simp, by simp⟩ ?_ ?_
  · (refine qis ?_ ?_ <;> (repeat' first | exact rfl | (refine qS ?_; constructor)))
  · intro ⟨k, p, top⟩ hk
    simp only at hk ⊢
    refine Fork.dec (fun hlt => ?_) (fun hlt => ?_)
    · have hlt : k < l.length := by omega
      have hx := (hO.ok k hlt).1
      have hv := hs k hlt
      have e := deepS_drop (sp := sp) (T := T) (p := p) (top := top) hlt
      obtain ⟨p1, p2⟩ := p
      simp only at hk e
      have b0 : p2 ≤ 10000000000 := Nat.le_trans hk.2.2.1.2 (Nat.le_trans (Nat.pow_le_pow_right (by decide) (show k ≤ 5 by omega)) (by decide))
      have b1 : T * p2 ≤ 100000 * 10000000000 := Nat.mul_le_mul hT b0
      have c86 : PFD Tryz.prog 109 [.agg [int (p1 : Int), int (p2 : Int)], .agg [int (l.getD k (0, 0, 0)).1, int (sp (l.getD k (0, 0, 0)))]] (qtv (plusQ (p1, p2) (lyQ (l.getD k (0, 0, 0)).1 (sp (l.getD k (0, 0, 0)))))) := by
        have h1 := hx.1
        generalize (l.getD k (0, 0, 0)).1 = a at *
        generalize sp (l.getD k (0, 0, 0)) = v at *
        obtain ⟨a, rfl⟩ : ∃ n : Nat, a = n := ⟨a.toNat, by omega⟩
        obtain ⟨v, rfl⟩ : ∃ n : Nat, v = n := ⟨v.toNat, by omega⟩
        have m1 : p1 * v ≤ 1000000000000000 * 100 := Nat.mul_le_mul (by omega) (by omega)
        have m2 : a * p2 ≤ 10000 * 10000000000 := Nat.mul_le_mul (by omega) b0
        have m3 : p2 * v ≤ 10000000000 * 100 := Nat.mul_le_mul b0 (by omega)
        exact C109 (q := (p1, p2)) (o := (a, v)) ⟨⟨hk.2.2.1.1, by simp only; omega⟩, ⟨by simp only; omega, by simp only; omega⟩, ⟨by simp only; omega, by simp only; omega⟩, by simp only; omega, by simp only; omega⟩
      have r1 := plusQ_pos (q := (p1, p2)) (o := lyQ (l.getD k (0, 0, 0)).1 (sp (l.getD k (0, 0, 0)))) hk.2.2.1.1 (by simp only [lyQ]; omega)
      have r2 := plusQ_den (q := (p1, p2)) (o := lyQ (l.getD k (0, 0, 0)).1 (sp (l.getD k (0, 0, 0))))
      have r3 : p2 * (lyQ (l.getD k (0, 0, 0)).1 (sp (l.getD k (0, 0, 0)))).2 ≤ p2 * 100 := Nat.mul_le_mul_left _ (by simp only [lyQ]; omega)
      have r4 : p2 * 100 ≤ 100 ^ (k + 1) := by rw [Nat.pow_succ]; exact Nat.mul_le_mul_right _ hk.2.2.1.2
      obtain ⟨⟨t1, t2⟩, ht⟩ : ∃ t, plusQ (p1, p2) (lyQ (l.getD k (0, 0, 0)).1 (sp (l.getD k (0, 0, 0)))) = t := ⟨_, rfl⟩
      rw [ht] at c86 r1 r2 e
      simp only at r1 r2 r3 e
      have b2 : T * t2 ≤ 100000 * 1000000000000 := Nat.mul_le_mul hT (by omega)
      have b3 : top * p2 ≤ 60000 * 10000000000 := Nat.mul_le_mul (by omega) b0
      have b4 : 0 ≤ ((T : Int) * p2 - p1) * sp (l.getD k (0, 0, 0)) ∧ ((T : Int) * p2 - p1) * sp (l.getD k (0, 0, 0)) ≤ 1000000000000000 * 100 := by
        have hd : 0 ≤ (T : Int) * p2 - p1 ∧ (T : Int) * p2 - p1 ≤ 1000000000000000 := by omega
        exact ⟨Int.mul_nonneg hd.1 (by omega), Int.mul_le_mul hd.2 hv.2 (by omega) (by omega)⟩
      have b5 : ((T : Int) * p2 - p1) * sp (l.getD k (0, 0, 0)) = (((T * p2 - p1) * (sp (l.getD k (0, 0, 0))).toNat : Nat) : Int) := by
        rw [Int.natCast_mul, Int.toNat_of_nonneg (by omega)]; congr 1; omega
      have b6 : (top : Int) * p2 + ((T : Int) * p2 - p1) * sp (l.getD k (0, 0, 0)) = ((top * p2 + (T * p2 - p1) * (sp (l.getD k (0, 0, 0))).toNat : Nat) : Int) := by rw [b5]; omega
      have h1 := hx.1
      (repeat' first | (refine Owe.same ?_; first | refine Owe.o ?_ | refine Owe.mk ?_ ?_) | (refine Fork.same ?_; (first | refine fkD ?_ ?_ | refine fkN ?_ ?_ | refine fkM ?_ ?_) <;> intro h) | ((first | refine OpsL.same ?_ | refine OpsDL.same ?_); first | refine pK (hg _) rfl rfl ?_ | refine pK c86 rfl rfl ?_) | refine MvQ.stay ?_)
      · rw [if_pos (.inl (by omega)), ← hk.2.1] at e
        subst e
        (refine rqK rfl ?_; (repeat' first | exact rfl | (refine qS ?_; constructor)))
        exact b6
      · have h : (T : Int) * t2 < t1 := h
        have h : T * t2 < t1 := by exact_mod_cast h
        rw [if_pos (.inr h), ← hk.2.1] at e
        subst e
        (refine rqK rfl ?_; (repeat' first | exact rfl | (refine qS ?_; constructor)))
        exact b6
      · rename_i hkl
        have h : ¬ (T : Int) * t2 < t1 := h
        have h : ¬ T * t2 < t1 := fun hh => h (by exact_mod_cast hh)
        rw [if_neg (by rintro (h2 | h2) <;> omega), ← hk.2.1] at e
        refine again (k + 1, (t1, t2), top + (l.getD k (0, 0, 0)).1.toNat) [0, 1] ⟨by omega, e, ⟨by simp only; omega, by simp only; omega⟩, by simp only; omega, by simp only; omega⟩ (by omega) ?_
        (refine qis ?_ ?_ <;> (repeat' first | exact rfl | (refine qS ?_; constructor)))
        show (top : Int) + (l.getD k (0, 0, 0)).1 = ((top + (l.getD k (0, 0, 0)).1.toNat : Nat) : Int)
        omega
    · (repeat' first | (refine Owe.same ?_; first | refine Owe.o ?_ | refine Owe.mk ?_ ?_) | (refine Fork.same ?_; (first | refine fkD ?_ ?_ | refine fkN ?_ ?_ | refine fkM ?_ ?_) <;> intro h) | refine MvQ.stay ?_)
      have e : q = p := by rw [hk.2.1, List.drop_of_length_le (by omega)]; rfl
      subst e
      (refine rqK rfl ?_; (repeat' first | exact rfl | (refine qS ?_; constructor)))
def lo (x : Dv) : Int := x.2.1
def hi (x : Dv) : Int := x.2.2
/-- The range of depths after a time, and that of times to a depth. -/
def dpS (l : List Dv) (T : Int) : Pr × Int := if lsE l T 100000 = 0 then ((((deepS lo T.toNat l (0, 1) 0).1 / (deepS lo T.toNat l (0, 1) 0).2 : Nat), (((deepS hi T.toNat l (0, 1) 0).1 + (deepS hi T.toNat l (0, 1) 0).2 - 1) / (deepS hi T.toNat l (0, 1) 0).2 : Nat)), 0) else ((0, 0), lsE l T 100000)
theorem lyE_ok {x : Dv} : lyE x = 0 ↔ lyOk x ∧ x.2.1 ≤ x.2.2 := by
  rw [lyE, fst2, unl0 (by decide), unl0 (by decide)]
theorem lysE_ok {l : List Dv} (h : (lysE l).2 = 0) : LyOk l := by
  rw [lysE] at h
  split at h
  · rename_i h0
    rw [cntE, fst2, unl0 (by decide), unl0 (by decide)] at h0
    refine ⟨by omega, fun i hi => lyE_ok.1 ?_⟩
    exact eachE_ok.1 h _ (by rw [List.getD_eq_getElem?_getD, List.getElem?_eq_getElem hi]; exact List.getElem_mem hi)
  · rename_i h0; exact absurd h h0
theorem deepS_bd {sp : Dv → Int} {T : Nat} (hT : T ≤ 100000) : ∀ (l : List Dv) (k : Nat) (p : Qt) (top : Nat), (∀ x ∈ l, (1 ≤ x.1 ∧ x.1 ≤ 10000) ∧ 1 ≤ sp x ∧ sp x ≤ 100) → k + l.length ≤ 6 → 0 < p.2 → p.2 ≤ 100 ^ k → p.1 ≤ T * p.2 → top ≤ 10000 * k →
    0 < (deepS sp T l p top).2 ∧ (deepS sp T l p top).2 ≤ 1000000000000 ∧ (deepS sp T l p top).1 ≤ 200000000000000000
  | [], k, p, top, _, hk, h0, h1, h2, h3 => by
    simp only [List.length_nil] at hk
    have b0 : p.2 ≤ 1000000000000 := Nat.le_trans h1 (Nat.le_trans (Nat.pow_le_pow_right (by decide) (show k ≤ 6 by omega)) (by decide))
    have b1 : T * p.2 ≤ 100000 * 1000000000000 := Nat.mul_le_mul hT b0
    simp only [deepS]; omega
  | x :: r, k, p, top, ho, hk, h0, h1, h2, h3 => by
    simp only [List.length_cons] at hk
    have hx := ho x (.head _)
    have b0 : p.2 ≤ 10000000000 := Nat.le_trans h1 (Nat.le_trans (Nat.pow_le_pow_right (by decide) (show k ≤ 5 by omega)) (by decide))
    have b1 : T * p.2 ≤ 100000 * 10000000000 := Nat.mul_le_mul hT b0
    rw [deepS]
    split
    · have b3 : top * p.2 ≤ 60000 * 10000000000 := Nat.mul_le_mul (by omega) b0
      have b4 : (T * p.2 - p.1) * (sp x).toNat ≤ 1000000000000000 * 100 := Nat.mul_le_mul (by omega) (by omega)
      refine ⟨h0, ?_, ?_⟩ <;> simp only <;> omega
    · rename_i hn
      have r1 := plusQ_pos (q := p) (o := lyQ x.1 (sp x)) h0 (by simp only [lyQ]; omega)
      have r2 := plusQ_den (q := p) (o := lyQ x.1 (sp x))
      have r3 : p.2 * (lyQ x.1 (sp x)).2 ≤ p.2 * 100 := Nat.mul_le_mul_left _ (by simp only [lyQ]; omega)
      have r4 : p.2 * 100 ≤ 100 ^ (k + 1) := by rw [Nat.pow_succ]; exact Nat.mul_le_mul_right _ h1
      exact deepS_bd hT r (k + 1) _ _ (fun y hy => ho y (.tail _ hy)) (by omega) r1 (by omega) (Nat.le_of_not_lt fun h => hn (.inr h)) (by omega)
theorem LyOk.mem {l : List Dv} (hO : LyOk l) {x : Dv} (hx : x ∈ l) : lyOk x ∧ x.2.1 ≤ x.2.2 := by
  obtain ⟨i, hi, rfl⟩ := List.mem_iff_getElem.1 hx
  have := hO.ok i hi
  rwa [List.getD_eq_getElem?_getD, List.getElem?_eq_getElem hi] at this
theorem C33 {l : List Dv} {T : Int} : l.length ≤ 1000000 → PFD Tryz.prog 33 [.c (trs l), vi .i64 T] (.tup [pr (dpS l T).1, vi .i64 (dpS l T).2]) := fun hl => by
  by_cases h0 : lsE l T 100000 = 0
  · rw [dpS, if_pos h0]
    have hh := fst2.1 (show fstE [(lysE l).2, unl (0 ≤ T ∧ T ≤ 100000) 2] = 0 from h0)
    have hO := lysE_ok hh.1
    have hT := (unl0 (by decide)).1 hh.2
    have hn := hO.n
    have c1 := C75 (g := 76) (sp := lo) (fun x => C76) (l := l) (T := T.toNat) ⟨hO, fun i hi => by have := hO.ok i hi; simp only [lo]; omega, by omega⟩
    have c2 := C75 (g := 78) (sp := hi) (fun x => C78) (l := l) (T := T.toNat) ⟨hO, fun i hi => by have := hO.ok i hi; simp only [Pw.hi]; omega, by omega⟩
    have d1 := deepS_bd (sp := lo) (T := T.toNat) (by omega) l 0 (0, 1) 0 (fun x hx => by have := hO.mem hx; simp only [lo]; omega) (by omega) (by decide) (by decide) (by simp) (by simp)
    have d2 := deepS_bd (sp := hi) (T := T.toNat) (by omega) l 0 (0, 1) 0 (fun x hx => by have := hO.mem hx; simp only [hi]; omega) (by omega) (by decide) (by decide) (by simp) (by simp)
    rw [show ((T.toNat : Nat) : Int) = T by omega] at c1 c2
    generalize deepS lo T.toNat l (0, 1) 0 = p at *
    generalize deepS hi T.toNat l (0, 1) 0 = q at *
    refine pi2 fn33 ?_
    (repeat' first | (refine Owe.same ?_; first | refine Owe.o ?_ | refine Owe.mk ?_ ?_) | (refine Fork.same ?_; (first | refine fkD ?_ ?_ | refine fkN ?_ ?_ | refine fkM ?_ ?_) <;> intro h) | ((first | refine OpsL.same ?_ | refine OpsDL.same ?_); first | refine oK (C74 hl) rfl rfl rfl ?_ | refine oK c1 rfl rfl rfl ?_ | refine oK c2 rfl rfl rfl ?_ | refine oK C77 rfl rfl rfl ?_ | refine oK C79 rfl rfl rfl ?_) | refine MvQ.stay ?_)
    · exact absurd h0 h
    · (refine rqK rfl ?_; (repeat' first | exact rfl | (refine qS ?_; constructor)))
  · rw [dpS, if_neg h0]
    refine pi2 fn33 ?_
    (repeat' first | (refine Owe.same ?_; first | refine Owe.o ?_ | refine Owe.mk ?_ ?_) | (refine Fork.same ?_; (first | refine fkD ?_ ?_ | refine fkN ?_ ?_ | refine fkM ?_ ?_) <;> intro h) | ((first | refine OpsL.same ?_ | refine OpsDL.same ?_); first | refine pK (C74 hl) rfl rfl ?_) | refine MvQ.stay ?_)
    · (refine rqK rfl ?_; (repeat' first | exact rfl | (refine qS ?_; constructor)))
    · exact absurd h h0
end Go.Pw
