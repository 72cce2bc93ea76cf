/- Steps toward the row of this claim: part 3 of 6. Proved as named below, on no condition but those that each theorem states. -/
import Derived.Test.YtkoohllimmkmoaaCableEveryB
import Derived.Test.YtkoohllimmkmoaaProg
set_option linter.unusedVariables false
set_option maxHeartbeats 2000000
set_option maxRecDepth 100000
namespace Go.Pw
open Go Go.Proofs
/-- moonpool/moonpoollaw01.awake -/
def lc15 : LCode :=
  (.seq (.region [⟨some 0, .mv (.const (.bool false)), none⟩]) (.seq (.region [⟨some 11, .call (.func 85) [], none⟩, ⟨some 12, .call (.func 86) [], none⟩, ⟨some 13, .call (.func 29)
    [(.tmp 11), (.tmp 12)], none⟩, ⟨some 10, .mv (.tmp 13), none⟩, ⟨some 14, .ext (.tmp 10) 0, none⟩, ⟨some 15, .ext (.tmp 10) 1, none⟩, ⟨some 1, .mv (.tmp 14), none⟩, ⟨some 2, .mv
    (.tmp 15), none⟩]) (.seq (.region [⟨some 17, .call (.func 85) [], none⟩, ⟨some 18, .call (.func 87) [], none⟩, ⟨some 19, .call (.func 70) [(.tmp 17), (.tmp 18)], none⟩, ⟨some
    16, .mv (.tmp 19), none⟩, ⟨some 20, .ext (.tmp 16) 0, none⟩, ⟨some 21, .ext (.tmp 16) 1, none⟩, ⟨some 3, .alloc [(.int .i64 0), (.int .i64 0)], none⟩, ⟨none, .store 2 (.tmp 3)
    (.tmp 20), none⟩, ⟨some 4, .mv (.tmp 21), none⟩]) (.seq (.region [⟨some 23, .call (.func 85) [], none⟩, ⟨some 24, .call (.func 86) [], none⟩, ⟨some 25, .call (.func 59) [(.tmp
    23), (.tmp 24)], none⟩, ⟨some 22, .mv (.tmp 25), none⟩, ⟨some 26, .ext (.tmp 22) 0, none⟩, ⟨some 27, .ext (.tmp 22) 1, none⟩, ⟨some 28, .ext (.tmp 22) 2, none⟩, ⟨some 6, .alloc
    [(.int .i64 0), (.int .i64 0)], none⟩, ⟨some 5, .mv (.tmp 26), none⟩, ⟨none, .store 2 (.tmp 6) (.tmp 27), none⟩, ⟨some 7, .mv (.tmp 28), none⟩]) (.seq (.region [⟨some 30, .build
    [(.int .i64 0), (.int .i64 0)] [(0, 1, (.const (.int .i64 0))), (1, 1, (.const (.int .i64 0)))], none⟩, ⟨some 31, .build [(.int .i64 0), (.int .i64 0)] [(0, 1, (.const (.int
    .i64 4))), (1, 1, (.const (.int .i64 0)))], none⟩, ⟨some 32, .build [(.int .i64 0), (.int .i64 0)] [(0, 1, (.const (.int .i64 4))), (1, 1, (.const (.int .i64 4)))], none⟩, ⟨some
    33, .build [(.int .i64 0), (.int .i64 0)] [(0, 1, (.const (.int .i64 0))), (1, 1, (.const (.int .i64 4)))], none⟩, ⟨some 34, .lit false 23 2 [(.tmp 30), (.tmp 31), (.tmp 32),
    (.tmp 33)], none⟩, ⟨some 35, .build [(.int .i64 0), (.int .i64 0)] [(0, 1, (.const (.int .i64 1))), (1, 1, (.const (.int .i64 2)))], none⟩, ⟨some 36, .call (.func 18) [(.tmp
    34), (.tmp 35)], none⟩, ⟨some 29, .mv (.tmp 36), none⟩, ⟨some 37, .ext (.tmp 29) 0, none⟩, ⟨some 38, .ext (.tmp 29) 1, none⟩, ⟨some 8, .mv (.tmp 37), none⟩, ⟨some 9, .mv (.tmp
    38), none⟩]) (.seq (.region [⟨some 39, .mv (.tmp 2), none⟩, ⟨some 40, .bin .eql (.tmp 39) (.const (.int .i64 0)), none⟩, ⟨some 41, .mv (.tmp 40), none⟩, ⟨some 42, .mv (.tmp 1),
    some (41, true)⟩, ⟨some 43, .build [(.int .i64 0), (.int .i64 0)] [(0, 1, (.const (.int .i64 12))), (1, 1, (.const (.int .i64 120)))], some (41, true)⟩, ⟨some 44, .build [(.int
    .i64 0), (.int .i64 0)] [(0, 1, (.const (.int .i64 2))), (1, 1, (.const (.int .i64 100)))], some (41, true)⟩, ⟨some 45, .build [(.int .i64 0), (.int .i64 0)] [(0, 1, (.const
    (.int .i64 2))), (1, 1, (.const (.int .i64 100)))], some (41, true)⟩, ⟨some 46, .lit false 46 2 [(.tmp 43), (.tmp 44), (.tmp 45)], some (41, true)⟩, ⟨some 47, .call (.func 39)
    [(.tmp 42), (.tmp 46)], some (41, true)⟩, ⟨some 48, .pick (.tmp 41) (.tmp 47) (.const (.bool false)), none⟩, ⟨some 49, .mv (.tmp 48), none⟩, ⟨some 50, .mv (.tmp 4), some (49,
    true)⟩, ⟨some 51, .bin .eql (.tmp 50) (.const (.int .i64 0)), some (49, true)⟩, ⟨some 52, .pick (.tmp 49) (.tmp 51) (.const (.bool false)), none⟩, ⟨some 53, .mv (.tmp 52),
    none⟩, ⟨some 54, .load true 2 (.tmp 3), some (53, true)⟩, ⟨some 55, .build [(.int .i64 0), (.int .i64 0)] [(0, 1, (.const (.int .i64 (-2)))), (1, 1, (.const (.int .i64 4)))],
    some (53, true)⟩, ⟨some 56, .eqA false 2 (.tmp 54) (.tmp 55), some (53, true)⟩, ⟨some 57, .pick (.tmp 53) (.tmp 56) (.const (.bool false)), none⟩, ⟨some 58, .mv (.tmp 57),
    none⟩, ⟨some 59, .mv (.tmp 7), some (58, true)⟩, ⟨some 60, .bin .eql (.tmp 59) (.const (.int .i64 0)), some (58, true)⟩, ⟨some 61, .pick (.tmp 58) (.tmp 60) (.const (.bool
    false)), none⟩, ⟨some 62, .mv (.tmp 61), none⟩, ⟨some 63, .mv (.tmp 5), some (62, true)⟩, ⟨some 64, .bin .eql (.tmp 63) (.const (.int .i64 0)), some (62, true)⟩, ⟨some 65, .pick
    (.tmp 62) (.tmp 64) (.const (.bool false)), none⟩, ⟨some 66, .mv (.tmp 65), none⟩, ⟨some 67, .load true 2 (.tmp 6), some (66, true)⟩, ⟨some 68, .build [(.int .i64 0), (.int .i64
    0)] [(0, 1, (.const (.int .i64 1600))), (1, 1, (.const (.int .i64 252601)))], some (66, true)⟩, ⟨some 69, .eqA false 2 (.tmp 67) (.tmp 68), some (66, true)⟩, ⟨some 70, .pick
    (.tmp 66) (.tmp 69) (.const (.bool false)), none⟩, ⟨some 71, .mv (.tmp 70), none⟩, ⟨some 72, .mv (.tmp 9), some (71, true)⟩, ⟨some 73, .bin .eql (.tmp 72) (.const (.int .i64
    0)), some (71, true)⟩, ⟨some 74, .pick (.tmp 71) (.tmp 73) (.const (.bool false)), none⟩, ⟨some 75, .mv (.tmp 74), none⟩, ⟨some 76, .mv (.tmp 8), some (75, true)⟩, ⟨some 77,
    .bin .eql (.tmp 76) (.const (.int .i64 1)), some (75, true)⟩, ⟨some 78, .pick (.tmp 75) (.tmp 77) (.const (.bool false)), none⟩, ⟨some 0, .mv (.tmp 78), none⟩]) .ret))))))
theorem low15 : lowF Try.prog [] Try.f15 = some (79, lc15, [.tmp 0]) := by kernel_rfl
theorem fn15 : FnOk Try.prog 15 79 lc15 [.tmp 0] := ⟨Try.call15, [], _, Try.func15, low15⟩
/-- moonpool/moonpoolbase.Within -/
def lc16 : LCode :=
  (.seq (.region [⟨some 6, .mv (.const (.bool false)), none⟩]) (.seq (.region [⟨some 7, .mv (.tmp 1), none⟩, ⟨some 8, .mv (.tmp 0), none⟩, ⟨some 9, .bin .leq (.tmp 7) (.tmp 8),
    none⟩, ⟨some 10, .mv (.tmp 9), none⟩, ⟨some 11, .mv (.tmp 0), some (10, true)⟩, ⟨some 12, .mv (.tmp 2), some (10, true)⟩, ⟨some 13, .bin .leq (.tmp 11) (.tmp 12), some (10,
    true)⟩, ⟨some 14, .pick (.tmp 10) (.tmp 13) (.const (.bool false)), none⟩, ⟨some 6, .mv (.tmp 14), none⟩]) .ret))
theorem low16 : lowF Try.prog [] Try.f16 = some (15, lc16, [.tmp 6]) := by kernel_rfl
theorem fn16 : FnOk Try.prog 16 15 lc16 [.tmp 6] := ⟨Try.call16, [], _, Try.func16, low16⟩
/-- moonpool/cable.WindingOf -/
def lc18 : LCode :=
  (.seq (.region [⟨some 3, .box (.tmp 1), none⟩, ⟨some 4, .mv (.const (.int .i64 0)), none⟩, ⟨some 5, .mv (.const (.int .i64 0)), none⟩]) (.seq (.seq (.region [⟨some 7, .mv (.tmp
    0), none⟩, ⟨some 8, .call (.func 88) [(.tmp 7)], none⟩, ⟨some 6, .mv (.tmp 8), none⟩]) (.seq (.region [⟨some 9, .mv (.tmp 6), none⟩, ⟨some 10, .bin .neq (.tmp 9) (.const (.int
    .i64 0)), none⟩]) (.cond (.tmp 10) (.seq (.region [⟨some 11, .mv (.tmp 6), none⟩, ⟨some 4, .mv (.const (.int .i64 0)), none⟩, ⟨some 5, .mv (.tmp 11), none⟩]) .ret) .skip)))
    (.seq (.region [⟨some 12, .mv (.tmp 0), none⟩, ⟨some 13, .load true 2 (.tmp 3), none⟩, ⟨some 14, .call (.func 89) [(.tmp 12), (.tmp 13)], none⟩, ⟨some 15, .ext (.tmp 14) 0,
    none⟩, ⟨some 16, .ext (.tmp 14) 1, none⟩, ⟨some 4, .mv (.tmp 15), none⟩, ⟨some 5, .mv (.tmp 16), none⟩]) .ret)))
theorem low18 : lowF Try.prog [] Try.f18 = some (17, lc18, [.tmp 4, .tmp 5]) := by kernel_rfl
theorem fn18 : FnOk Try.prog 18 17 lc18 [.tmp 4, .tmp 5] := ⟨Try.call18, [], _, Try.func18, low18⟩
/-- moonpool/moonpoollaw01.few -/
def lc28 : LCode :=
  (.seq (.region [⟨some 2, .box (.tmp 0), none⟩, ⟨some 4, .mv (.const (.bool false)), none⟩]) (.seq (.region [⟨some 5, .fld 2 (.tmp 2), none⟩, ⟨some 6, .load false 1 (.tmp 5),
    none⟩, ⟨some 7, .len (.tmp 6), none⟩, ⟨some 8, .bin .leq (.tmp 7) (.const (.int .i64 12)), none⟩, ⟨some 9, .mv (.tmp 8), none⟩, ⟨some 10, .mv (.tmp 1), some (9, true)⟩, ⟨some
    11, .bin .leq (.tmp 10) (.const (.int .i64 14)), some (9, true)⟩, ⟨some 12, .pick (.tmp 9) (.tmp 11) (.const (.bool false)), none⟩, ⟨some 4, .mv (.tmp 12), none⟩]) .ret))
theorem low28 : lowF Try.prog [] Try.f28 = some (13, lc28, [.tmp 4]) := by kernel_rfl
theorem fn28 : FnOk Try.prog 28 13 lc28 [.tmp 4] := ⟨Try.call28, [], _, Try.func28, low28⟩
/-- moonpool/cable.TensionsOf -/
def lc29 : LCode :=
  (.seq (.region [⟨some 2, .box (.tmp 0), none⟩, ⟨some 4, .mv (.const (.slice none 0 0)), none⟩, ⟨some 5, .mv (.const (.int .i64 0)), none⟩]) (.seq (.region [⟨some 9, .load true 3
    (.tmp 2), none⟩, ⟨some 10, .mv (.tmp 1), none⟩, ⟨some 11, .call (.func 95) [(.tmp 9), (.tmp 10)], none⟩, ⟨some 8, .mv (.tmp 11), none⟩, ⟨some 12, .ext (.tmp 8) 0, none⟩, ⟨some
    13, .ext (.tmp 8) 1, none⟩, ⟨some 6, .alloc [(.int .i64 0), (.int .i64 0), (.slice none 0 0), (.slice none 0 0)], none⟩, ⟨none, .store 4 (.tmp 6) (.tmp 12), none⟩, ⟨some 7, .mv
    (.tmp 13), none⟩]) (.seq (.seq (.region [⟨some 14, .mv (.tmp 7), none⟩, ⟨some 15, .bin .neq (.tmp 14) (.const (.int .i64 0)), none⟩]) (.cond (.tmp 15) (.seq (.region [⟨some 16,
    .mv (.tmp 7), none⟩, ⟨some 4, .mv (.const (.slice none 0 0)), none⟩, ⟨some 5, .mv (.tmp 16), none⟩]) .ret) .skip)) (.seq (.region [⟨some 17, .load true 4 (.tmp 6), none⟩, ⟨some
    18, .call (.func 96) [(.tmp 17)], none⟩, ⟨some 4, .mv (.tmp 18), none⟩, ⟨some 5, .mv (.const (.int .i64 0)), none⟩]) .ret))))
theorem low29 : lowF Try.prog [] Try.f29 = some (19, lc29, [.tmp 4, .tmp 5]) := by kernel_rfl
theorem fn29 : FnOk Try.prog 29 19 lc29 [.tmp 4, .tmp 5] := ⟨Try.call29, [], _, Try.func29, low29⟩
/-- moonpool/moonpoolref01.CopyLine -/
def lc30 : LCode :=
  (.seq (.region [⟨some 1, .box (.tmp 0), none⟩, ⟨some 2, .alloc [(.int .i64 0), (.int .i64 0), (.slice none 0 0)], none⟩]) (.seq (.regionD [⟨some 3, .fld 0 (.tmp 1), none⟩, ⟨some
    4, .load true 2 (.tmp 3), none⟩, ⟨some 5, .lit false 99 3 [], none⟩, ⟨some 6, .fld 2 (.tmp 1), none⟩, ⟨some 7, .load false 1 (.tmp 6), none⟩, ⟨some 8, .append false 99 3 24
    (.tmp 5) (.tmp 7), none⟩, ⟨some 9, .build [(.int .i64 0), (.int .i64 0), (.slice none 0 0)] [(0, 2, (.tmp 4)), (2, 1, (.tmp 8))], none⟩, ⟨none, .store 3 (.tmp 2) (.tmp 9),
    none⟩] [0, 1, 0, 0, 8, 28, 63, 127] [0, 1, 2, 3, 4, 5, 6, 7]) .ret))
theorem low30 : lowF Try.prog [] Try.f30 = some (10, lc30, [.cell 2 true 3]) := by kernel_rfl
theorem fn30 : FnOk Try.prog 30 10 lc30 [.cell 2 true 3] := ⟨Try.call30, [], _, Try.func30, low30⟩
/-- moonpool/moonpoolbase.CopyInts -/
def lc31 : LCode :=
  (.seq (.region [⟨some 2, .mv (.const (.slice none 0 0)), none⟩]) (.seq (.region [⟨some 3, .lit false 3 1 [], none⟩, ⟨some 4, .mv (.tmp 0), none⟩, ⟨some 5, .append false 3 1 8
    (.tmp 3) (.tmp 4), none⟩, ⟨some 2, .mv (.tmp 5), none⟩]) .ret))
theorem low31 : lowF Try.prog [] Try.f31 = some (6, lc31, [.tmp 2]) := by kernel_rfl
theorem fn31 : FnOk Try.prog 31 6 lc31 [.tmp 2] := ⟨Try.call31, [], _, Try.func31, low31⟩
/-- moonpool/moonpoolref01.LineErr -/
def lc35 : LCode :=
  (.seq (.region [⟨some 1, .box (.tmp 0), none⟩, ⟨some 2, .mv (.const (.int .i64 0)), none⟩]) (.seq (.region [⟨some 6, .load true 3 (.tmp 1), none⟩, ⟨some 7, .call (.func 51) [(.tmp
    6)], none⟩, ⟨some 5, .mv (.tmp 7), none⟩, ⟨some 8, .ext (.tmp 5) 0, none⟩, ⟨some 9, .ext (.tmp 5) 1, none⟩, ⟨some 3, .mv (.tmp 8), none⟩, ⟨some 4, .mv (.tmp 9), none⟩]) (.seq
    (.region [⟨some 10, .mv (.tmp 4), none⟩, ⟨some 2, .mv (.tmp 10), none⟩]) .ret)))
theorem low35 : lowF Try.prog [] Try.f35 = some (11, lc35, [.tmp 2]) := by kernel_rfl
theorem fn35 : FnOk Try.prog 35 11 lc35 [.tmp 2] := ⟨Try.call35, [], _, Try.func35, low35⟩
/-- moonpool/moonpoolref01.SameForces -/
def lc39 : LCode :=
  (.seq (.region [⟨some 4, .mv (.const (.bool false)), none⟩]) (.seq (.seq (.region [⟨some 6, .mv (.tmp 0), none⟩, ⟨some 7, .len (.tmp 6), none⟩, ⟨some 8, .mv (.tmp 1), none⟩, ⟨some
    9, .len (.tmp 8), none⟩, ⟨some 10, .bin .neq (.tmp 7) (.tmp 9), none⟩]) (.cond (.tmp 10) (.seq (.region [⟨some 4, .mv (.const (.bool false)), none⟩]) .ret) .skip)) (.seq (.seq
    (.region [⟨some 5, .mv (.const (.int .i64 0)), none⟩]) (.block 0 (.loop (.seq (.seq (.region [⟨some 11, .mv (.tmp 5), none⟩, ⟨some 12, .mv (.tmp 0), none⟩, ⟨some 13, .len (.tmp
    12), none⟩, ⟨some 14, .bin .lss (.tmp 11) (.tmp 13), none⟩]) (.cond (.tmp 14) .skip (.exit 0))) (.seq (.block 1 (.seq (.regionD [⟨some 17, .mv (.tmp 0), none⟩, ⟨some 18, .mv
    (.tmp 5), none⟩, ⟨some 19, .idx 2 (.tmp 17) (.tmp 18), none⟩, ⟨some 20, .load true 2 (.tmp 19), none⟩, ⟨some 21, .mv (.tmp 1), none⟩, ⟨some 22, .mv (.tmp 5), none⟩, ⟨some 23,
    .idx 2 (.tmp 21) (.tmp 22), none⟩, ⟨some 24, .load true 2 (.tmp 23), none⟩, ⟨some 25, .eqA true 2 (.tmp 20) (.tmp 24), none⟩] [0, 0, 3, 7, 0, 0, 48, 112, 255] [0, 1, 2, 3, 4, 5,
    6, 7, 8]) (.cond (.tmp 25) (.seq (.region [⟨some 4, .mv (.const (.bool false)), none⟩]) .ret) .skip))) (.region [⟨some 15, .mv (.tmp 5), none⟩, ⟨some 16, .bin .add (.tmp 15)
    (.const (.int .i64 1)), none⟩, ⟨some 5, .mv (.tmp 16), none⟩])))))) (.seq (.region [⟨some 4, .mv (.const (.bool true)), none⟩]) .ret))))
theorem low39 : lowF Try.prog [] Try.f39 = some (26, lc39, [.tmp 4]) := by kernel_rfl
theorem fn39 : FnOk Try.prog 39 26 lc39 [.tmp 4] := ⟨Try.call39, [], _, Try.func39, low39⟩
/-- moonpool/cable.CheckLine -/
def lc46 : LCode :=
  (.seq (.region [⟨some 1, .box (.tmp 0), none⟩, ⟨some 2, .mv (.const (.int .i64 0)), none⟩, ⟨some 3, .mv (.const (.int .i64 0)), none⟩]) (.seq (.regionD [⟨some 5, .fld 0 (.tmp 1),
    none⟩, ⟨some 6, .fld 0 (.tmp 5), none⟩, ⟨some 7, .load false 1 (.tmp 6), none⟩, ⟨some 8, .call (.func 106) [(.tmp 7), (.const (.int .i64 10000))], none⟩, ⟨some 9, .mv (.tmp 8),
    none⟩, ⟨some 10, .fld 0 (.tmp 1), some (9, true)⟩, ⟨some 11, .fld 1 (.tmp 10), some (9, true)⟩, ⟨some 12, .load false 1 (.tmp 11), some (9, true)⟩, ⟨some 13, .call (.func 106)
    [(.tmp 12), (.const (.int .i64 10000))], some (9, true)⟩, ⟨some 14, .pick (.tmp 9) (.tmp 13) (.const (.bool false)), none⟩, ⟨some 15, .call (.func 91) [(.tmp 14), (.const (.int
    .i64 2))], none⟩, ⟨some 16, .fld 2 (.tmp 1), none⟩, ⟨some 17, .load false 1 (.tmp 16), none⟩, ⟨some 18, .len (.tmp 17), none⟩, ⟨some 19, .bin .gtr (.tmp 18) (.const (.int .i64
    0)), none⟩, ⟨some 20, .call (.func 91) [(.tmp 19), (.const (.int .i64 10))], none⟩, ⟨some 21, .fld 2 (.tmp 1), none⟩, ⟨some 22, .load false 1 (.tmp 21), none⟩, ⟨some 23, .len
    (.tmp 22), none⟩, ⟨some 24, .bin .leq (.tmp 23) (.const (.int .i64 10)), none⟩, ⟨some 25, .call (.func 91) [(.tmp 24), (.const (.int .i64 8))], none⟩, ⟨some 26, .lit false 29 1
    [(.tmp 15), (.tmp 20), (.tmp 25)], none⟩, ⟨some 27, .call (.func 90) [(.tmp 26)], none⟩, ⟨some 4, .mv (.tmp 27), none⟩] [0, 1, 3, 7, 15, 31, 63, 127, 255, 511, 1023, 0, 2048,
    6144, 14336, 32767, 0, 65536, 196608, 458752, 1048575, 2097151, 4194303, 8388607] [0, 1, 2, 3, 4, 5, 6, 7, 8, 9, 10, 11, 12, 13, 14, 15, 16, 17, 18, 19, 20, 21, 22, 23]) (.seq
    (.seq (.region [⟨some 28, .mv (.tmp 4), none⟩, ⟨some 29, .bin .neq (.tmp 28) (.const (.int .i64 0)), none⟩]) (.cond (.tmp 29) (.seq (.region [⟨some 30, .mv (.tmp 4), none⟩,
    ⟨some 2, .mv (.const (.int .i64 0)), none⟩, ⟨some 3, .mv (.tmp 30), none⟩]) .ret) .skip)) (.seq (.region [⟨some 31, .fld 2 (.tmp 1), none⟩, ⟨some 32, .load false 1 (.tmp 31),
    none⟩, ⟨some 33, .call (.func 107) [(.tmp 32), (.func 108)], none⟩, ⟨some 34, .ext (.tmp 33) 0, none⟩, ⟨some 35, .ext (.tmp 33) 1, none⟩, ⟨some 2, .mv (.tmp 34), none⟩, ⟨some 3,
    .mv (.tmp 35), none⟩]) .ret))))
theorem low46 : lowF Try.prog [] Try.f46 = some (36, lc46, [.tmp 2, .tmp 3]) := by kernel_rfl
theorem fn46 : FnOk Try.prog 46 36 lc46 [.tmp 2, .tmp 3] := ⟨Try.call46, [], _, Try.func46, low46⟩
/-- moonpool/cable.CheckBox -/
def lc47 : LCode :=
  (.seq (.region [⟨some 2, .box (.tmp 0), none⟩, ⟨some 4, .mv (.const (.int .i64 0)), none⟩, ⟨some 5, .mv (.const (.int .i64 0)), none⟩]) (.seq (.seq (.region [⟨some 9, .load true 3
    (.tmp 2), none⟩, ⟨some 10, .call (.func 46) [(.tmp 9)], none⟩, ⟨some 8, .mv (.tmp 10), none⟩, ⟨some 11, .ext (.tmp 8) 0, none⟩, ⟨some 12, .ext (.tmp 8) 1, none⟩, ⟨some 6, .mv
    (.tmp 11), none⟩, ⟨some 7, .mv (.tmp 12), none⟩]) (.seq (.region [⟨some 13, .mv (.tmp 7), none⟩, ⟨some 14, .bin .neq (.tmp 13) (.const (.int .i64 0)), none⟩]) (.cond (.tmp 14)
    (.seq (.region [⟨some 15, .mv (.tmp 6), none⟩, ⟨some 16, .mv (.tmp 7), none⟩, ⟨some 4, .mv (.tmp 15), none⟩, ⟨some 5, .mv (.tmp 16), none⟩]) .ret) .skip))) (.seq (.seq (.region
    [⟨some 17, .mv (.tmp 1), none⟩, ⟨some 18, .len (.tmp 17), none⟩, ⟨some 19, .fld 2 (.tmp 2), none⟩, ⟨some 20, .load false 1 (.tmp 19), none⟩, ⟨some 21, .len (.tmp 20), none⟩,
    ⟨some 22, .bin .neq (.tmp 18) (.tmp 21), none⟩]) (.cond (.tmp 22) (.seq (.region [⟨some 4, .mv (.const (.int .i64 0)), none⟩, ⟨some 5, .mv (.const (.int .i64 10)), none⟩]) .ret)
    .skip)) (.seq (.region [⟨some 23, .mv (.tmp 1), none⟩, ⟨some 24, .call (.func 109) [(.tmp 23), (.func 110)], none⟩, ⟨some 25, .ext (.tmp 24) 0, none⟩, ⟨some 26, .ext (.tmp 24)
    1, none⟩, ⟨some 4, .mv (.tmp 25), none⟩, ⟨some 5, .mv (.tmp 26), none⟩]) .ret))))
theorem low47 : lowF Try.prog [] Try.f47 = some (27, lc47, [.tmp 4, .tmp 5]) := by kernel_rfl
theorem fn47 : FnOk Try.prog 47 27 lc47 [.tmp 4, .tmp 5] := ⟨Try.call47, [], _, Try.func47, low47⟩
/-- moonpool/moonpoolbase.CopyRanges -/
def lc48 : LCode :=
  (.seq (.region [⟨some 2, .mv (.const (.slice none 0 0)), none⟩]) (.seq (.region [⟨some 3, .lit false 85 2 [], none⟩, ⟨some 4, .mv (.tmp 0), none⟩, ⟨some 5, .append false 85 2 16
    (.tmp 3) (.tmp 4), none⟩, ⟨some 2, .mv (.tmp 5), none⟩]) .ret))
theorem low48 : lowF Try.prog [] Try.f48 = some (6, lc48, [.tmp 2]) := by kernel_rfl
theorem fn48 : FnOk Try.prog 48 6 lc48 [.tmp 2] := ⟨Try.call48, [], _, Try.func48, low48⟩
/-- moonpool/moonpoolref01.CheckLine -/
def lc51 : LCode :=
  (.seq (.region [⟨some 1, .box (.tmp 0), none⟩, ⟨some 2, .mv (.const (.int .i64 0)), none⟩, ⟨some 3, .mv (.const (.int .i64 0)), none⟩]) (.seq (.region [⟨some 4, .mv (.const (.int
    .i64 10000)), none⟩]) (.seq (.seq (.region [⟨some 7, .fld 0 (.tmp 1), none⟩, ⟨some 8, .fld 0 (.tmp 7), none⟩, ⟨some 9, .load false 1 (.tmp 8), none⟩, ⟨some 10, .mv (.tmp 4),
    none⟩, ⟨some 11, .un .neg (.tmp 10), none⟩, ⟨some 12, .mv (.tmp 4), none⟩, ⟨some 13, .call (.func 16) [(.tmp 9), (.tmp 11), (.tmp 12)], none⟩, ⟨some 14, .un .not (.tmp 13),
    none⟩, ⟨some 15, .mv (.tmp 14), none⟩, ⟨some 16, .fld 0 (.tmp 1), some (15, false)⟩, ⟨some 17, .fld 1 (.tmp 16), some (15, false)⟩, ⟨some 18, .load false 1 (.tmp 17), some (15,
    false)⟩, ⟨some 19, .mv (.tmp 4), some (15, false)⟩, ⟨some 20, .un .neg (.tmp 19), some (15, false)⟩, ⟨some 21, .mv (.tmp 4), some (15, false)⟩, ⟨some 22, .call (.func 16) [(.tmp
    18), (.tmp 20), (.tmp 21)], some (15, false)⟩, ⟨some 23, .un .not (.tmp 22), some (15, false)⟩, ⟨some 24, .pick (.tmp 15) (.const (.bool true)) (.tmp 23), none⟩]) (.cond (.tmp
    24) (.seq (.region [⟨some 2, .mv (.const (.int .i64 0)), none⟩, ⟨some 3, .mv (.const (.int .i64 2)), none⟩]) .ret) .skip)) (.seq (.seq (.region [⟨some 25, .fld 2 (.tmp 1),
    none⟩, ⟨some 26, .load false 1 (.tmp 25), none⟩, ⟨some 27, .len (.tmp 26), none⟩, ⟨some 28, .bin .eql (.tmp 27) (.const (.int .i64 0)), none⟩]) (.cond (.tmp 28) (.seq (.region
    [⟨some 2, .mv (.const (.int .i64 0)), none⟩, ⟨some 3, .mv (.const (.int .i64 10)), none⟩]) .ret) .skip)) (.seq (.seq (.region [⟨some 29, .fld 2 (.tmp 1), none⟩, ⟨some 30, .load
    false 1 (.tmp 29), none⟩, ⟨some 31, .len (.tmp 30), none⟩, ⟨some 32, .bin .gtr (.tmp 31) (.const (.int .i64 10)), none⟩]) (.cond (.tmp 32) (.seq (.region [⟨some 2, .mv (.const
    (.int .i64 0)), none⟩, ⟨some 3, .mv (.const (.int .i64 8)), none⟩]) .ret) .skip)) (.seq (.seq (.region [⟨some 5, .mv (.const (.int .i64 0)), none⟩]) (.block 0 (.loop (.seq (.seq
    (.region [⟨some 33, .mv (.tmp 5), none⟩, ⟨some 34, .fld 2 (.tmp 1), none⟩, ⟨some 35, .load false 1 (.tmp 34), none⟩, ⟨some 36, .len (.tmp 35), none⟩, ⟨some 37, .bin .lss (.tmp
    33) (.tmp 36), none⟩]) (.cond (.tmp 37) .skip (.exit 0))) (.seq (.block 1 (.seq (.region [⟨some 40, .fld 2 (.tmp 1), none⟩, ⟨some 41, .load false 1 (.tmp 40), none⟩, ⟨some 42,
    .mv (.tmp 5), none⟩, ⟨some 43, .idx 3 (.tmp 41) (.tmp 42), none⟩, ⟨some 44, .load true 3 (.tmp 43), none⟩, ⟨some 6, .alloc [(.int .i64 0), (.int .i64 0), (.int .i64 0)], none⟩,
    ⟨none, .store 3 (.tmp 6) (.tmp 44), none⟩]) (.seq (.region [⟨some 45, .fld 0 (.tmp 6), none⟩, ⟨some 46, .load false 1 (.tmp 45), none⟩, ⟨some 47, .call (.func 16) [(.tmp 46),
    (.const (.int .i64 1)), (.const (.int .i64 1000))], none⟩, ⟨some 48, .un .not (.tmp 47), none⟩, ⟨some 49, .mv (.tmp 48), none⟩, ⟨some 50, .fld 1 (.tmp 6), some (49, false)⟩,
    ⟨some 51, .load false 1 (.tmp 50), some (49, false)⟩, ⟨some 52, .call (.func 16) [(.tmp 51), (.const (.int .i64 (-1000))), (.const (.int .i64 1000))], some (49, false)⟩, ⟨some
    53, .un .not (.tmp 52), some (49, false)⟩, ⟨some 54, .pick (.tmp 49) (.const (.bool true)) (.tmp 53), none⟩, ⟨some 55, .mv (.tmp 54), none⟩, ⟨some 56, .fld 2 (.tmp 6), some (55,
    false)⟩, ⟨some 57, .load false 1 (.tmp 56), some (55, false)⟩, ⟨some 58, .call (.func 16) [(.tmp 57), (.const (.int .i64 0)), (.const (.int .i64 20))], some (55, false)⟩, ⟨some
    59, .un .not (.tmp 58), some (55, false)⟩, ⟨some 60, .pick (.tmp 55) (.const (.bool true)) (.tmp 59), none⟩]) (.cond (.tmp 60) (.seq (.region [⟨some 61, .mv (.tmp 5), none⟩,
    ⟨some 2, .mv (.tmp 61), none⟩, ⟨some 3, .mv (.const (.int .i64 2)), none⟩]) .ret) .skip)))) (.region [⟨some 38, .mv (.tmp 5), none⟩, ⟨some 39, .bin .add (.tmp 38) (.const (.int
    .i64 1)), none⟩, ⟨some 5, .mv (.tmp 39), none⟩])))))) (.seq (.region [⟨some 2, .mv (.const (.int .i64 0)), none⟩, ⟨some 3, .mv (.const (.int .i64 0)), none⟩]) .ret)))))))
theorem low51 : lowF Try.prog [] Try.f51 = some (62, lc51, [.tmp 2, .tmp 3]) := by kernel_rfl
theorem fn51 : FnOk Try.prog 51 62 lc51 [.tmp 2, .tmp 3] := ⟨Try.call51, [], _, Try.func51, low51⟩
/-- moonpool/moonpoolref01.CheckBox -/
def lc52 : LCode :=
  (.seq (.region [⟨some 2, .box (.tmp 0), none⟩, ⟨some 4, .mv (.const (.int .i64 0)), none⟩, ⟨some 5, .mv (.const (.int .i64 0)), none⟩]) (.seq (.seq (.region [⟨some 7, .mv (.tmp
    1), none⟩, ⟨some 8, .len (.tmp 7), none⟩, ⟨some 9, .fld 2 (.tmp 2), none⟩, ⟨some 10, .load false 1 (.tmp 9), none⟩, ⟨some 11, .len (.tmp 10), none⟩, ⟨some 12, .bin .neq (.tmp 8)
    (.tmp 11), none⟩]) (.cond (.tmp 12) (.seq (.region [⟨some 4, .mv (.const (.int .i64 0)), none⟩, ⟨some 5, .mv (.const (.int .i64 10)), none⟩]) .ret) .skip)) (.seq (.seq (.region
    [⟨some 6, .mv (.const (.int .i64 0)), none⟩]) (.block 0 (.loop (.seq (.seq (.region [⟨some 13, .mv (.tmp 6), none⟩, ⟨some 14, .mv (.tmp 1), none⟩, ⟨some 15, .len (.tmp 14),
    none⟩, ⟨some 16, .bin .lss (.tmp 13) (.tmp 15), none⟩]) (.cond (.tmp 16) .skip (.exit 0))) (.seq (.block 1 (.seq (.seq (.region [⟨some 19, .mv (.tmp 1), none⟩, ⟨some 20, .mv
    (.tmp 6), none⟩, ⟨some 21, .idx 2 (.tmp 19) (.tmp 20), none⟩, ⟨some 22, .fld 0 (.tmp 21), none⟩, ⟨some 23, .load false 1 (.tmp 22), none⟩, ⟨some 24, .call (.func 100) [(.tmp
    23)], none⟩, ⟨some 25, .un .not (.tmp 24), none⟩, ⟨some 26, .mv (.tmp 25), none⟩, ⟨some 27, .mv (.tmp 1), some (26, false)⟩, ⟨some 28, .mv (.tmp 6), some (26, false)⟩, ⟨some 29,
    .idx 2 (.tmp 27) (.tmp 28), some (26, false)⟩, ⟨some 30, .fld 1 (.tmp 29), some (26, false)⟩, ⟨some 31, .load false 1 (.tmp 30), some (26, false)⟩, ⟨some 32, .call (.func 100)
    [(.tmp 31)], some (26, false)⟩, ⟨some 33, .un .not (.tmp 32), some (26, false)⟩, ⟨some 34, .pick (.tmp 26) (.const (.bool true)) (.tmp 33), none⟩]) (.cond (.tmp 34) (.seq
    (.region [⟨some 35, .mv (.tmp 6), none⟩, ⟨some 4, .mv (.tmp 35), none⟩, ⟨some 5, .mv (.const (.int .i64 2)), none⟩]) .ret) .skip)) (.seq (.regionD [⟨some 36, .mv (.tmp 1),
    none⟩, ⟨some 37, .mv (.tmp 6), none⟩, ⟨some 38, .idx 2 (.tmp 36) (.tmp 37), none⟩, ⟨some 39, .fld 0 (.tmp 38), none⟩, ⟨some 40, .load false 1 (.tmp 39), none⟩, ⟨some 41, .mv
    (.tmp 1), none⟩, ⟨some 42, .mv (.tmp 6), none⟩, ⟨some 43, .idx 2 (.tmp 41) (.tmp 42), none⟩, ⟨some 44, .fld 1 (.tmp 43), none⟩, ⟨some 45, .load false 1 (.tmp 44), none⟩, ⟨some
    46, .bin .gtr (.tmp 40) (.tmp 45), none⟩] [0, 0, 3, 7, 15, 0, 0, 96, 224, 480, 1023] [0, 1, 2, 3, 4, 5, 6, 7, 8, 9, 10]) (.cond (.tmp 46) (.seq (.region [⟨some 47, .mv (.tmp 6),
    none⟩, ⟨some 4, .mv (.tmp 47), none⟩, ⟨some 5, .mv (.const (.int .i64 9)), none⟩]) .ret) .skip)))) (.region [⟨some 17, .mv (.tmp 6), none⟩, ⟨some 18, .bin .add (.tmp 17) (.const
    (.int .i64 1)), none⟩, ⟨some 6, .mv (.tmp 18), none⟩])))))) (.seq (.region [⟨some 4, .mv (.const (.int .i64 0)), none⟩, ⟨some 5, .mv (.const (.int .i64 0)), none⟩]) .ret))))
theorem low52 : lowF Try.prog [] Try.f52 = some (48, lc52, [.tmp 4, .tmp 5]) := by kernel_rfl
theorem fn52 : FnOk Try.prog 52 48 lc52 [.tmp 4, .tmp 5] := ⟨Try.call52, [], _, Try.func52, low52⟩
/-- moonpool/cable.LaybackOf -/
def lc56 : LCode :=
  (.seq (.region [⟨some 2, .box (.tmp 0), none⟩, ⟨some 4, .alloc [(.int .i64 0), (.int .i64 0)], none⟩, ⟨some 5, .mv (.const (.int .i64 0)), none⟩]) (.seq (.region [⟨some 9, .load
    true 3 (.tmp 2), none⟩, ⟨some 10, .mv (.tmp 1), none⟩, ⟨some 11, .call (.func 95) [(.tmp 9), (.tmp 10)], none⟩, ⟨some 12, .ext (.tmp 11) 0, none⟩, ⟨some 13, .ext (.tmp 11) 1,
    none⟩, ⟨some 14, .call (.func 116) [(.tmp 12), (.tmp 13)], none⟩, ⟨some 8, .mv (.tmp 14), none⟩, ⟨some 15, .ext (.tmp 8) 0, none⟩, ⟨some 16, .ext (.tmp 8) 1, none⟩, ⟨some 6,
    .alloc [(.int .i64 0), (.int .i64 0), (.slice none 0 0), (.slice none 0 0)], none⟩, ⟨none, .store 4 (.tmp 6) (.tmp 15), none⟩, ⟨some 7, .mv (.tmp 16), none⟩]) (.seq (.seq
    (.region [⟨some 17, .mv (.tmp 7), none⟩, ⟨some 18, .bin .neq (.tmp 17) (.const (.int .i64 0)), none⟩]) (.cond (.tmp 18) (.seq (.region [⟨some 19, .build [(.int .i64 0), (.int
    .i64 0)] [], none⟩, ⟨some 20, .mv (.tmp 7), none⟩, ⟨none, .store 2 (.tmp 4) (.tmp 19), none⟩, ⟨some 5, .mv (.tmp 20), none⟩]) .ret) .skip)) (.seq (.region [⟨some 21, .load true
    4 (.tmp 6), none⟩, ⟨some 22, .call (.func 118) [(.tmp 21)], none⟩, ⟨none, .store 2 (.tmp 4) (.tmp 22), none⟩, ⟨some 5, .mv (.const (.int .i64 0)), none⟩]) .ret))))
theorem low56 : lowF Try.prog [] Try.f56 = some (23, lc56, [.cell 4 true 2, .tmp 5]) := by kernel_rfl
theorem fn56 : FnOk Try.prog 56 23 lc56 [.cell 4 true 2, .tmp 5] := ⟨Try.call56, [], _, Try.func56, low56⟩
def ra57 : LCode :=
  (.region [⟨some 10, .alloc [(.int .i64 0), (.int .i64 0), (.int .i64 0), (.int .i64 0)], none⟩, ⟨none, .store 4 (.tmp 10) (.tmp 28), none⟩])
def rb57 : LCode :=
  (.block 1 (.seq (.region [⟨some 29, .load true 4 (.tmp 10), none⟩, ⟨some 30, .fld 0 (.tmp 10), none⟩, ⟨some 31, .fld 0 (.tmp 30), none⟩, ⟨some 32, .load false 1 (.tmp 31), none⟩,
    ⟨some 33, .call (.func 119) [(.tmp 29), (.tmp 32)], none⟩, ⟨some 11, .alloc [(.int .i64 0), (.int .i64 0)], none⟩, ⟨none, .store 2 (.tmp 11) (.tmp 33), none⟩]) (.regionD [⟨some
    34, .fld 0 (.tmp 8), none⟩, ⟨some 35, .load false 1 (.tmp 34), none⟩, ⟨some 36, .fld 0 (.tmp 11), none⟩, ⟨some 37, .load false 1 (.tmp 36), none⟩, ⟨some 38, .bin .add (.tmp 35)
    (.tmp 37), none⟩, ⟨some 39, .fld 1 (.tmp 8), none⟩, ⟨some 40, .load false 1 (.tmp 39), none⟩, ⟨some 41, .fld 1 (.tmp 11), none⟩, ⟨some 42, .load false 1 (.tmp 41), none⟩, ⟨some
    43, .bin .add (.tmp 40) (.tmp 42), none⟩, ⟨some 44, .fld 0 (.tmp 8), none⟩, ⟨none, .store 1 (.tmp 44) (.tmp 38), none⟩, ⟨some 45, .fld 1 (.tmp 8), none⟩, ⟨none, .store 1 (.tmp
    45) (.tmp 43), none⟩] [0, 1, 0, 4, 15, 0, 32, 0, 128, 480, 127, 1151, 4095, 8191] [0, 1, 2, 3, 4, 5, 6, 7, 8, 9, 10, 11, 12, 13])))
/-- moonpool/cable.LengthOf -/
def lc57 : LCode :=
  (.seq (.region [⟨some 2, .box (.tmp 0), none⟩, ⟨some 4, .alloc [(.int .i64 0), (.int .i64 0)], none⟩, ⟨some 5, .mv (.const (.int .i64 0)), none⟩]) (.seq (.region [⟨some 13, .load
    true 3 (.tmp 2), none⟩, ⟨some 14, .mv (.tmp 1), none⟩, ⟨some 15, .call (.func 95) [(.tmp 13), (.tmp 14)], none⟩, ⟨some 16, .ext (.tmp 15) 0, none⟩, ⟨some 17, .ext (.tmp 15) 1,
    none⟩, ⟨some 18, .call (.func 116) [(.tmp 16), (.tmp 17)], none⟩, ⟨some 12, .mv (.tmp 18), none⟩, ⟨some 19, .ext (.tmp 12) 0, none⟩, ⟨some 20, .ext (.tmp 12) 1, none⟩, ⟨some 6,
    .alloc [(.int .i64 0), (.int .i64 0), (.slice none 0 0), (.slice none 0 0)], none⟩, ⟨none, .store 4 (.tmp 6) (.tmp 19), none⟩, ⟨some 7, .mv (.tmp 20), none⟩]) (.seq (.seq
    (.region [⟨some 21, .mv (.tmp 7), none⟩, ⟨some 22, .bin .neq (.tmp 21) (.const (.int .i64 0)), none⟩]) (.cond (.tmp 22) (.seq (.region [⟨some 23, .build [(.int .i64 0), (.int
    .i64 0)] [], none⟩, ⟨some 24, .mv (.tmp 7), none⟩, ⟨none, .store 2 (.tmp 4) (.tmp 23), none⟩, ⟨some 5, .mv (.tmp 24), none⟩]) .ret) .skip)) (.seq (.region [⟨some 8, .alloc
    [(.int .i64 0), (.int .i64 0)], none⟩]) (.seq (.seq (.region [⟨some 25, .load true 4 (.tmp 6), none⟩, ⟨some 26, .call (.func 113) [(.tmp 25)], none⟩]) (.block 0 (.rangeFunc
    (.tmp 26) [27, 28] ra57 rb57))) (.seq (.region [⟨some 46, .load true 2 (.tmp 8), none⟩, ⟨none, .store 2 (.tmp 4) (.tmp 46), none⟩, ⟨some 5, .mv (.const (.int .i64 0)), none⟩])
    .ret))))))
theorem low57 : lowF Try.prog [] Try.f57 = some (47, lc57, [.cell 4 true 2, .tmp 5]) := by kernel_rfl
theorem fn57 : FnOk Try.prog 57 47 lc57 [.cell 4 true 2, .tmp 5] := ⟨Try.call57, [], _, Try.func57, low57⟩
/-- moonpool/cable.BendsOf -/
def lc58 : LCode :=
  (.seq (.region [⟨some 2, .box (.tmp 0), none⟩, ⟨some 4, .mv (.const (.slice none 0 0)), none⟩, ⟨some 5, .mv (.const (.int .i64 0)), none⟩]) (.seq (.region [⟨some 15, .load true 3
    (.tmp 2), none⟩, ⟨some 16, .mv (.tmp 1), none⟩, ⟨some 17, .call (.func 95) [(.tmp 15), (.tmp 16)], none⟩, ⟨some 18, .ext (.tmp 17) 0, none⟩, ⟨some 19, .ext (.tmp 17) 1, none⟩,
    ⟨some 20, .call (.func 116) [(.tmp 18), (.tmp 19)], none⟩, ⟨some 14, .mv (.tmp 20), none⟩, ⟨some 21, .ext (.tmp 14) 0, none⟩, ⟨some 22, .ext (.tmp 14) 1, none⟩, ⟨some 6, .alloc
    [(.int .i64 0), (.int .i64 0), (.slice none 0 0), (.slice none 0 0)], none⟩, ⟨none, .store 4 (.tmp 6) (.tmp 21), none⟩, ⟨some 7, .mv (.tmp 22), none⟩]) (.seq (.seq (.region
    [⟨some 23, .mv (.tmp 7), none⟩, ⟨some 24, .bin .neq (.tmp 23) (.const (.int .i64 0)), none⟩]) (.cond (.tmp 24) (.seq (.region [⟨some 25, .mv (.tmp 7), none⟩, ⟨some 4, .mv
    (.const (.slice none 0 0)), none⟩, ⟨some 5, .mv (.tmp 25), none⟩]) .ret) .skip)) (.seq (.region [⟨some 8, .mv (.const (.slice none 0 0)), none⟩]) (.seq (.region [⟨some 26, .load
    true 4 (.tmp 6), none⟩, ⟨some 27, .call (.func 96) [(.tmp 26)], none⟩, ⟨some 9, .mv (.tmp 27), none⟩]) (.seq (.seq (.region [⟨some 28, .mv (.tmp 9), none⟩, ⟨some 29, .slc 2
    (.tmp 28) (some (.const (.int .i64 1))) none, none⟩, ⟨some 30, .len (.tmp 29), none⟩, ⟨some 31, .mv (.const (.int .i64 0)), none⟩]) (.block 0 (.loop (.seq (.region [⟨some 32,
    .bin .lss (.tmp 31) (.tmp 30), none⟩]) (.seq (.cond (.tmp 32) .skip (.exit 0)) (.seq (.block 1 (.seq (.region [⟨some 33, .mv (.tmp 31), none⟩, ⟨some 34, .idx 2 (.tmp 29) (.tmp
    31), none⟩, ⟨some 35, .load true 2 (.tmp 34), none⟩, ⟨some 11, .alloc [(.int .i64 0), (.int .i64 0)], none⟩, ⟨some 10, .mv (.tmp 33), none⟩, ⟨none, .store 2 (.tmp 11) (.tmp 35),
    none⟩]) (.seq (.region [⟨some 36, .mv (.tmp 9), none⟩, ⟨some 37, .mv (.tmp 10), none⟩, ⟨some 38, .idx 2 (.tmp 36) (.tmp 37), none⟩, ⟨some 39, .load true 2 (.tmp 38), none⟩,
    ⟨some 12, .alloc [(.int .i64 0), (.int .i64 0)], none⟩, ⟨none, .store 2 (.tmp 12) (.tmp 39), none⟩]) (.seq (.region [⟨some 40, .fld 0 (.tmp 12), none⟩, ⟨some 41, .load false 1
    (.tmp 40), none⟩, ⟨some 42, .fld 1 (.tmp 11), none⟩, ⟨some 43, .load false 1 (.tmp 42), none⟩, ⟨some 44, .bin .mul (.tmp 41) (.tmp 43), none⟩, ⟨some 45, .fld 0 (.tmp 11), none⟩,
    ⟨some 46, .load false 1 (.tmp 45), none⟩, ⟨some 47, .fld 1 (.tmp 12), none⟩, ⟨some 48, .load false 1 (.tmp 47), none⟩, ⟨some 49, .bin .mul (.tmp 46) (.tmp 48), none⟩, ⟨some 50,
    .bin .sub (.tmp 44) (.tmp 49), none⟩, ⟨some 13, .mv (.tmp 50), none⟩]) (.regionD [⟨some 51, .mv (.tmp 8), none⟩, ⟨some 52, .mv (.tmp 13), none⟩, ⟨some 53, .mv (.tmp 13), none⟩,
    ⟨some 54, .bin .mul (.tmp 52) (.tmp 53), none⟩, ⟨some 55, .load true 2 (.tmp 11), none⟩, ⟨some 56, .call (.func 99) [(.tmp 55)], none⟩, ⟨some 57, .load true 2 (.tmp 12), none⟩,
    ⟨some 58, .call (.func 99) [(.tmp 57)], none⟩, ⟨some 59, .bin .mul (.tmp 56) (.tmp 58), none⟩, ⟨some 60, .call (.func 117) [(.tmp 54), (.tmp 59)], none⟩, ⟨some 61, .lit false 89
    2 [(.tmp 60)], none⟩, ⟨some 62, .append true 89 2 16 (.tmp 51) (.tmp 61), none⟩, ⟨some 8, .mv (.tmp 62), none⟩] [0, 0, 0, 6, 0, 16, 0, 112, 240, 510, 1022, 2047, 4095] [0, 1, 2,
    3, 4, 5, 6, 7, 8, 9, 10, 11, 12]))))) (.region [⟨some 63, .bin .add (.tmp 31) (.const (.int .i64 1)), none⟩, ⟨some 31, .mv (.tmp 63), none⟩]))))))) (.seq (.region [⟨some 64, .mv
    (.tmp 8), none⟩, ⟨some 4, .mv (.tmp 64), none⟩, ⟨some 5, .mv (.const (.int .i64 0)), none⟩]) .ret)))))))
theorem low58 : lowF Try.prog [62] Try.f58 = some (65, lc58, [.tmp 4, .tmp 5]) := by kernel_rfl
theorem fn58 : FnOk Try.prog 58 65 lc58 [.tmp 4, .tmp 5] := ⟨Try.call58, [62], _, Try.func58, low58⟩
/-- moonpool/cable.SharpestIn -/
def lc59 : LCode :=
  (.seq (.region [⟨some 2, .box (.tmp 0), none⟩, ⟨some 4, .mv (.const (.int .i64 0)), none⟩, ⟨some 5, .alloc [(.int .i64 0), (.int .i64 0)], none⟩, ⟨some 6, .mv (.const (.int .i64
    0)), none⟩]) (.seq (.region [⟨some 13, .load true 3 (.tmp 2), none⟩, ⟨some 14, .mv (.tmp 1), none⟩, ⟨some 15, .call (.func 58) [(.tmp 13), (.tmp 14)], none⟩, ⟨some 12, .mv (.tmp
    15), none⟩, ⟨some 16, .ext (.tmp 12) 0, none⟩, ⟨some 17, .ext (.tmp 12) 1, none⟩, ⟨some 7, .mv (.tmp 16), none⟩, ⟨some 8, .mv (.tmp 17), none⟩]) (.seq (.seq (.region [⟨some 18,
    .mv (.tmp 8), none⟩, ⟨some 19, .mv (.tmp 7), none⟩, ⟨some 20, .len (.tmp 19), none⟩, ⟨some 21, .bin .gtr (.tmp 20) (.const (.int .i64 0)), none⟩, ⟨some 22, .call (.func 91)
    [(.tmp 21), (.const (.int .i64 12))], none⟩, ⟨some 23, .lit false 29 1 [(.tmp 18), (.tmp 22)], none⟩, ⟨some 24, .call (.func 90) [(.tmp 23)], none⟩, ⟨some 8, .mv (.tmp 24),
    none⟩]) (.seq (.region [⟨some 25, .mv (.tmp 8), none⟩, ⟨some 26, .bin .neq (.tmp 25) (.const (.int .i64 0)), none⟩]) (.cond (.tmp 26) (.seq (.region [⟨some 27, .build [(.int
    .i64 0), (.int .i64 0)] [], none⟩, ⟨some 28, .mv (.tmp 8), none⟩, ⟨some 4, .mv (.const (.int .i64 0)), none⟩, ⟨none, .store 2 (.tmp 5) (.tmp 27), none⟩, ⟨some 6, .mv (.tmp 28),
    none⟩]) .ret) .skip))) (.seq (.region [⟨some 9, .mv (.const (.int .i64 0)), none⟩]) (.seq (.seq (.region [⟨some 29, .mv (.tmp 7), none⟩, ⟨some 30, .len (.tmp 29), none⟩, ⟨some
    31, .mv (.const (.int .i64 0)), none⟩]) (.block 0 (.loop (.seq (.region [⟨some 32, .bin .lss (.tmp 31) (.tmp 30), none⟩]) (.seq (.cond (.tmp 32) .skip (.exit 0)) (.seq (.block 1
    (.seq (.region [⟨some 33, .mv (.tmp 31), none⟩, ⟨some 34, .idx 2 (.tmp 29) (.tmp 31), none⟩, ⟨some 35, .load true 2 (.tmp 34), none⟩, ⟨some 11, .alloc [(.int .i64 0), (.int .i64
    0)], none⟩, ⟨some 10, .mv (.tmp 33), none⟩, ⟨none, .store 2 (.tmp 11) (.tmp 35), none⟩]) (.seq (.regionD [⟨some 36, .mv (.tmp 7), none⟩, ⟨some 37, .mv (.tmp 9), none⟩, ⟨some 38,
    .idx 2 (.tmp 36) (.tmp 37), none⟩, ⟨some 39, .load true 2 (.tmp 38), none⟩, ⟨some 40, .load true 2 (.tmp 11), none⟩, ⟨some 41, .call (.func 120) [(.tmp 39), (.tmp 40)], none⟩]
    [0, 0, 3, 7, 0, 31] [0, 1, 2, 3, 4, 5]) (.cond (.tmp 41) (.region [⟨some 42, .mv (.tmp 10), none⟩, ⟨some 9, .mv (.tmp 42), none⟩]) .skip)))) (.region [⟨some 43, .bin .add (.tmp
    31) (.const (.int .i64 1)), none⟩, ⟨some 31, .mv (.tmp 43), none⟩]))))))) (.seq (.regionD [⟨some 44, .mv (.tmp 9), none⟩, ⟨some 45, .mv (.tmp 7), none⟩, ⟨some 46, .mv (.tmp 9),
    none⟩, ⟨some 47, .idx 2 (.tmp 45) (.tmp 46), none⟩, ⟨some 48, .load true 2 (.tmp 47), none⟩, ⟨some 4, .mv (.tmp 44), none⟩, ⟨none, .store 2 (.tmp 5) (.tmp 48), none⟩, ⟨some 6,
    .mv (.const (.int .i64 0)), none⟩] [0, 0, 0, 6, 14, 1, 63, 127] [0, 1, 2, 3, 4, 5, 6, 7]) .ret))))))
theorem low59 : lowF Try.prog [] Try.f59 = some (49, lc59, [.tmp 4, .cell 5 true 2, .tmp 6]) := by kernel_rfl
theorem fn59 : FnOk Try.prog 59 49 lc59 [.tmp 4, .cell 5 true 2, .tmp 6] := ⟨Try.call59, [], _, Try.func59, low59⟩
end Go.Pw

set_option linter.unusedVariables false
set_option maxHeartbeats 2000000
set_option maxRecDepth 100000
namespace Go.Pw
open Go Go.Proofs
/-- moonpool/moonpoolbase.Mod -/
def lc67 : LCode :=
  (.seq (.region [⟨some 4, .mv (.const (.int .i64 0)), none⟩]) (.seq (.region [⟨some 5, .mv (.tmp 0), none⟩, ⟨some 6, .mv (.tmp 1), none⟩, ⟨some 7, .bin .rem (.tmp 5) (.tmp 6),
    none⟩, ⟨some 0, .mv (.tmp 7), none⟩]) (.seq (.seq (.region [⟨some 8, .mv (.tmp 0), none⟩, ⟨some 9, .bin .lss (.tmp 8) (.const (.int .i64 0)), none⟩]) (.cond (.tmp 9) (.region
    [⟨some 10, .mv (.tmp 0), none⟩, ⟨some 11, .mv (.tmp 1), none⟩, ⟨some 12, .bin .add (.tmp 10) (.tmp 11), none⟩, ⟨some 0, .mv (.tmp 12), none⟩]) .skip)) (.seq (.region [⟨some 13,
    .mv (.tmp 0), none⟩, ⟨some 4, .mv (.tmp 13), none⟩]) .ret))))
theorem low67 : lowF Try.prog [] Try.f67 = some (14, lc67, [.tmp 4]) := by kernel_rfl
theorem fn67 : FnOk Try.prog 67 14 lc67 [.tmp 4] := ⟨Try.call67, [], _, Try.func67, low67⟩
def ra68 : LCode :=
  (.region [⟨some 10, .alloc [(.int .i64 0), (.int .i64 0), (.int .i64 0), (.int .i64 0)], none⟩, ⟨none, .store 4 (.tmp 10) (.tmp 23), none⟩])
def rb68 : LCode :=
  (.block 1 (.region [⟨some 24, .load false 1 (.tmp 8), none⟩, ⟨some 25, .fld 0 (.tmp 10), none⟩, ⟨some 26, .load true 2 (.tmp 25), none⟩, ⟨some 27, .lit false 85 2 [(.tmp 26)],
    none⟩, ⟨some 28, .append true 85 2 16 (.tmp 24) (.tmp 27), none⟩, ⟨none, .store 1 (.tmp 8) (.tmp 28), none⟩]))
/-- moonpool/cable.PullsIn -/
def lc68 : LCode :=
  (.seq (.region [⟨some 2, .box (.tmp 0), none⟩, ⟨some 4, .mv (.const (.slice none 0 0)), none⟩, ⟨some 5, .mv (.const (.int .i64 0)), none⟩]) (.seq (.region [⟨some 12, .load true 3
    (.tmp 2), none⟩, ⟨some 13, .mv (.tmp 1), none⟩, ⟨some 14, .call (.func 127) [(.tmp 12), (.tmp 13)], none⟩, ⟨some 11, .mv (.tmp 14), none⟩, ⟨some 15, .ext (.tmp 11) 0, none⟩,
    ⟨some 16, .ext (.tmp 11) 1, none⟩, ⟨some 6, .alloc [(.int .i64 0), (.int .i64 0), (.slice none 0 0), (.slice none 0 0)], none⟩, ⟨none, .store 4 (.tmp 6) (.tmp 15), none⟩, ⟨some
    7, .mv (.tmp 16), none⟩]) (.seq (.seq (.region [⟨some 17, .mv (.tmp 7), none⟩, ⟨some 18, .bin .neq (.tmp 17) (.const (.int .i64 0)), none⟩]) (.cond (.tmp 18) (.seq (.region
    [⟨some 19, .mv (.tmp 7), none⟩, ⟨some 4, .mv (.const (.slice none 0 0)), none⟩, ⟨some 5, .mv (.tmp 19), none⟩]) .ret) .skip)) (.seq (.region [⟨some 8, .alloc [(.slice none 0
    0)], none⟩]) (.seq (.seq (.region [⟨some 20, .load true 4 (.tmp 6), none⟩, ⟨some 21, .call (.func 113) [(.tmp 20)], none⟩]) (.block 0 (.rangeFunc (.tmp 21) [22, 23] ra68 rb68)))
    (.seq (.region [⟨some 29, .load false 1 (.tmp 8), none⟩, ⟨some 4, .mv (.tmp 29), none⟩, ⟨some 5, .mv (.const (.int .i64 0)), none⟩]) .ret))))))
theorem low68 : lowF Try.prog [28] Try.f68 = some (30, lc68, [.tmp 4, .tmp 5]) := by kernel_rfl
theorem fn68 : FnOk Try.prog 68 30 lc68 [.tmp 4, .tmp 5] := ⟨Try.call68, [28], _, Try.func68, low68⟩
def ra69 : LCode :=
  (.region [⟨some 10, .alloc [(.int .i64 0), (.int .i64 0), (.int .i64 0), (.int .i64 0)], none⟩, ⟨none, .store 4 (.tmp 10) (.tmp 25), none⟩])
def rb69 : LCode :=
  (.block 1 (.seq (.regionD [⟨some 26, .fld 0 (.tmp 10), none⟩, ⟨some 27, .fld 0 (.tmp 26), none⟩, ⟨some 28, .load false 1 (.tmp 27), none⟩, ⟨some 29, .fld 0 (.tmp 10), none⟩, ⟨some
    30, .fld 1 (.tmp 29), none⟩, ⟨some 31, .load false 1 (.tmp 30), none⟩, ⟨some 32, .un .neg (.tmp 31), none⟩, ⟨some 33, .mm true [(.tmp 28), (.tmp 32), (.const (.int .i64 0))],
    none⟩, ⟨some 34, .fld 0 (.tmp 10), none⟩, ⟨some 35, .fld 0 (.tmp 34), none⟩, ⟨some 36, .load false 1 (.tmp 35), none⟩, ⟨some 37, .un .neg (.tmp 36), none⟩, ⟨some 38, .fld 0
    (.tmp 10), none⟩, ⟨some 39, .fld 1 (.tmp 38), none⟩, ⟨some 40, .load false 1 (.tmp 39), none⟩, ⟨some 41, .mm true [(.tmp 37), (.tmp 40)], none⟩, ⟨some 11, .mv (.tmp 33), none⟩,
    ⟨some 12, .mv (.tmp 41), none⟩] [0, 1, 3, 0, 8, 24, 56, 127, 0, 256, 768, 1792, 0, 4096, 12288, 32512, 255, 131071] [0, 1, 2, 3, 4, 5, 6, 7, 8, 9, 10, 11, 12, 13, 14, 15, 16,
    17]) (.region [⟨some 42, .load false 1 (.tmp 8), none⟩, ⟨some 43, .mv (.tmp 11), none⟩, ⟨some 44, .mv (.tmp 11), none⟩, ⟨some 45, .bin .mul (.tmp 43) (.tmp 44), none⟩, ⟨some 46,
    .fld 2 (.tmp 10), none⟩, ⟨some 47, .load false 1 (.tmp 46), none⟩, ⟨some 48, .fld 2 (.tmp 10), none⟩, ⟨some 49, .load false 1 (.tmp 48), none⟩, ⟨some 50, .bin .mul (.tmp 47)
    (.tmp 49), none⟩, ⟨some 51, .bin .add (.tmp 45) (.tmp 50), none⟩, ⟨some 52, .mv (.tmp 12), none⟩, ⟨some 53, .mv (.tmp 12), none⟩, ⟨some 54, .bin .mul (.tmp 52) (.tmp 53), none⟩,
    ⟨some 55, .fld 2 (.tmp 10), none⟩, ⟨some 56, .load false 1 (.tmp 55), none⟩, ⟨some 57, .fld 2 (.tmp 10), none⟩, ⟨some 58, .load false 1 (.tmp 57), none⟩, ⟨some 59, .bin .mul
    (.tmp 56) (.tmp 58), none⟩, ⟨some 60, .bin .add (.tmp 54) (.tmp 59), none⟩, ⟨some 61, .build [(.int .i64 0), (.int .i64 0)] [(0, 1, (.tmp 51)), (1, 1, (.tmp 60))], none⟩, ⟨some
    62, .lit false 85 2 [(.tmp 61)], none⟩, ⟨some 63, .append true 85 2 16 (.tmp 42) (.tmp 62), none⟩, ⟨none, .store 1 (.tmp 8) (.tmp 63), none⟩])))
/-- moonpool/cable.SquaresIn -/
def lc69 : LCode :=
  (.seq (.region [⟨some 2, .box (.tmp 0), none⟩, ⟨some 4, .mv (.const (.slice none 0 0)), none⟩, ⟨some 5, .mv (.const (.int .i64 0)), none⟩]) (.seq (.region [⟨some 14, .load true 3
    (.tmp 2), none⟩, ⟨some 15, .mv (.tmp 1), none⟩, ⟨some 16, .call (.func 127) [(.tmp 14), (.tmp 15)], none⟩, ⟨some 13, .mv (.tmp 16), none⟩, ⟨some 17, .ext (.tmp 13) 0, none⟩,
    ⟨some 18, .ext (.tmp 13) 1, none⟩, ⟨some 6, .alloc [(.int .i64 0), (.int .i64 0), (.slice none 0 0), (.slice none 0 0)], none⟩, ⟨none, .store 4 (.tmp 6) (.tmp 17), none⟩, ⟨some
    7, .mv (.tmp 18), none⟩]) (.seq (.seq (.region [⟨some 19, .mv (.tmp 7), none⟩, ⟨some 20, .bin .neq (.tmp 19) (.const (.int .i64 0)), none⟩]) (.cond (.tmp 20) (.seq (.region
    [⟨some 21, .mv (.tmp 7), none⟩, ⟨some 4, .mv (.const (.slice none 0 0)), none⟩, ⟨some 5, .mv (.tmp 21), none⟩]) .ret) .skip)) (.seq (.region [⟨some 8, .alloc [(.slice none 0
    0)], none⟩]) (.seq (.seq (.region [⟨some 22, .load true 4 (.tmp 6), none⟩, ⟨some 23, .call (.func 113) [(.tmp 22)], none⟩]) (.block 0 (.rangeFunc (.tmp 23) [24, 25] ra69 rb69)))
    (.seq (.region [⟨some 64, .load false 1 (.tmp 8), none⟩, ⟨some 4, .mv (.tmp 64), none⟩, ⟨some 5, .mv (.const (.int .i64 0)), none⟩]) .ret))))))
theorem low69 : lowF Try.prog [63] Try.f69 = some (65, lc69, [.tmp 4, .tmp 5]) := by kernel_rfl
theorem fn69 : FnOk Try.prog 69 65 lc69 [.tmp 4, .tmp 5] := ⟨Try.call69, [63], _, Try.func69, low69⟩
/-- moonpool/cable.LaybackIn -/
def lc70 : LCode :=
  (.seq (.region [⟨some 2, .box (.tmp 0), none⟩, ⟨some 4, .alloc [(.int .i64 0), (.int .i64 0)], none⟩, ⟨some 5, .mv (.const (.int .i64 0)), none⟩]) (.seq (.region [⟨some 9, .load
    true 3 (.tmp 2), none⟩, ⟨some 10, .mv (.tmp 1), none⟩, ⟨some 11, .call (.func 127) [(.tmp 9), (.tmp 10)], none⟩, ⟨some 12, .ext (.tmp 11) 0, none⟩, ⟨some 13, .ext (.tmp 11) 1,
    none⟩, ⟨some 14, .call (.func 116) [(.tmp 12), (.tmp 13)], none⟩, ⟨some 8, .mv (.tmp 14), none⟩, ⟨some 15, .ext (.tmp 8) 0, none⟩, ⟨some 16, .ext (.tmp 8) 1, none⟩, ⟨some 6,
    .alloc [(.int .i64 0), (.int .i64 0), (.slice none 0 0), (.slice none 0 0)], none⟩, ⟨none, .store 4 (.tmp 6) (.tmp 15), none⟩, ⟨some 7, .mv (.tmp 16), none⟩]) (.seq (.seq
    (.region [⟨some 17, .mv (.tmp 7), none⟩, ⟨some 18, .bin .neq (.tmp 17) (.const (.int .i64 0)), none⟩]) (.cond (.tmp 18) (.seq (.region [⟨some 19, .build [(.int .i64 0), (.int
    .i64 0)] [], none⟩, ⟨some 20, .mv (.tmp 7), none⟩, ⟨none, .store 2 (.tmp 4) (.tmp 19), none⟩, ⟨some 5, .mv (.tmp 20), none⟩]) .ret) .skip)) (.seq (.region [⟨some 21, .load true
    4 (.tmp 6), none⟩, ⟨some 22, .call (.func 118) [(.tmp 21)], none⟩, ⟨none, .store 2 (.tmp 4) (.tmp 22), none⟩, ⟨some 5, .mv (.const (.int .i64 0)), none⟩]) .ret))))
theorem low70 : lowF Try.prog [] Try.f70 = some (23, lc70, [.cell 4 true 2, .tmp 5]) := by kernel_rfl
theorem fn70 : FnOk Try.prog 70 23 lc70 [.cell 4 true 2, .tmp 5] := ⟨Try.call70, [], _, Try.func70, low70⟩
def ra71 : LCode :=
  (.region [⟨some 10, .alloc [(.int .i64 0), (.int .i64 0), (.int .i64 0), (.int .i64 0)], none⟩, ⟨none, .store 4 (.tmp 10) (.tmp 26), none⟩])
def rb71 : LCode :=
  (.block 1 (.regionD [⟨some 27, .load false 1 (.tmp 8), none⟩, ⟨some 28, .load true 4 (.tmp 10), none⟩, ⟨some 29, .fld 0 (.tmp 10), none⟩, ⟨some 30, .fld 0 (.tmp 29), none⟩, ⟨some
    31, .load false 1 (.tmp 30), none⟩, ⟨some 32, .un .neg (.tmp 31), none⟩, ⟨some 33, .fld 0 (.tmp 10), none⟩, ⟨some 34, .fld 1 (.tmp 33), none⟩, ⟨some 35, .load false 1 (.tmp 34),
    none⟩, ⟨some 36, .mm true [(.tmp 32), (.tmp 35)], none⟩, ⟨some 37, .call (.func 119) [(.tmp 28), (.tmp 36)], none⟩, ⟨some 38, .part false 1 1 (.tmp 37), none⟩, ⟨some 39, .bin
    .add (.tmp 27) (.tmp 38), none⟩, ⟨none, .store 1 (.tmp 8) (.tmp 39), none⟩] [0, 0, 0, 4, 12, 28, 0, 64, 192, 508, 1022, 2046, 4095, 8191] [0, 1, 2, 3, 4, 5, 6, 7, 8, 9, 10, 11,
    12, 13]))
/-- moonpool/cable.EnoughFor -/
def lc71 : LCode :=
  (.seq (.region [⟨some 2, .box (.tmp 0), none⟩, ⟨some 4, .mv (.const (.int .i64 0)), none⟩, ⟨some 5, .mv (.const (.int .i64 0)), none⟩]) (.seq (.region [⟨some 12, .load true 3
    (.tmp 2), none⟩, ⟨some 13, .mv (.tmp 1), none⟩, ⟨some 14, .call (.func 127) [(.tmp 12), (.tmp 13)], none⟩, ⟨some 15, .ext (.tmp 14) 0, none⟩, ⟨some 16, .ext (.tmp 14) 1, none⟩,
    ⟨some 17, .call (.func 116) [(.tmp 15), (.tmp 16)], none⟩, ⟨some 11, .mv (.tmp 17), none⟩, ⟨some 18, .ext (.tmp 11) 0, none⟩, ⟨some 19, .ext (.tmp 11) 1, none⟩, ⟨some 6, .alloc
    [(.int .i64 0), (.int .i64 0), (.slice none 0 0), (.slice none 0 0)], none⟩, ⟨none, .store 4 (.tmp 6) (.tmp 18), none⟩, ⟨some 7, .mv (.tmp 19), none⟩]) (.seq (.seq (.region
    [⟨some 20, .mv (.tmp 7), none⟩, ⟨some 21, .bin .neq (.tmp 20) (.const (.int .i64 0)), none⟩]) (.cond (.tmp 21) (.seq (.region [⟨some 22, .mv (.tmp 7), none⟩, ⟨some 4, .mv
    (.const (.int .i64 0)), none⟩, ⟨some 5, .mv (.tmp 22), none⟩]) .ret) .skip)) (.seq (.region [⟨some 8, .alloc [(.int .i64 0)], none⟩, ⟨none, .store 1 (.tmp 8) (.const (.int .i64
    0)), none⟩]) (.seq (.seq (.region [⟨some 23, .load true 4 (.tmp 6), none⟩, ⟨some 24, .call (.func 113) [(.tmp 23)], none⟩]) (.block 0 (.rangeFunc (.tmp 24) [25, 26] ra71 rb71)))
    (.seq (.region [⟨some 40, .load false 1 (.tmp 8), none⟩, ⟨some 4, .mv (.tmp 40), none⟩, ⟨some 5, .mv (.const (.int .i64 0)), none⟩]) .ret))))))
theorem low71 : lowF Try.prog [] Try.f71 = some (41, lc71, [.tmp 4, .tmp 5]) := by kernel_rfl
theorem fn71 : FnOk Try.prog 71 41 lc71 [.tmp 4, .tmp 5] := ⟨Try.call71, [], _, Try.func71, low71⟩
/-- moonpool/moonpoolref01.BoxErr -/
def lc72 : LCode :=
  (.seq (.region [⟨some 2, .box (.tmp 0), none⟩, ⟨some 4, .mv (.const (.int .i64 0)), none⟩]) (.seq (.region [⟨some 8, .load true 3 (.tmp 2), none⟩, ⟨some 9, .mv (.tmp 1), none⟩,
    ⟨some 10, .call (.func 52) [(.tmp 8), (.tmp 9)], none⟩, ⟨some 7, .mv (.tmp 10), none⟩, ⟨some 11, .ext (.tmp 7) 0, none⟩, ⟨some 12, .ext (.tmp 7) 1, none⟩, ⟨some 5, .mv (.tmp
    11), none⟩, ⟨some 6, .mv (.tmp 12), none⟩]) (.seq (.region [⟨some 13, .mv (.tmp 6), none⟩, ⟨some 4, .mv (.tmp 13), none⟩]) .ret)))
theorem low72 : lowF Try.prog [] Try.f72 = some (14, lc72, [.tmp 4]) := by kernel_rfl
theorem fn72 : FnOk Try.prog 72 14 lc72 [.tmp 4] := ⟨Try.call72, [], _, Try.func72, low72⟩
/-- moonpool/moonpoollaw01.Line -/
def lc85 : LCode :=
  (.seq (.region [⟨some 0, .alloc [(.int .i64 0), (.int .i64 0), (.slice none 0 0)], none⟩]) (.seq (.region [⟨some 1, .build [(.int .i64 0), (.int .i64 0)] [(1, 1, (.const (.int
    .i64 100)))], none⟩, ⟨some 2, .build [(.int .i64 0), (.int .i64 0), (.int .i64 0)] [(0, 1, (.const (.int .i64 10))), (1, 1, (.const (.int .i64 20))), (2, 1, (.const (.int .i64
    3)))], none⟩, ⟨some 3, .build [(.int .i64 0), (.int .i64 0), (.int .i64 0)] [(0, 1, (.const (.int .i64 10))), (1, 1, (.const (.int .i64 (-20)))), (2, 1, (.const (.int .i64
    5)))], none⟩, ⟨some 4, .build [(.int .i64 0), (.int .i64 0), (.int .i64 0)] [(0, 1, (.const (.int .i64 5)))], none⟩, ⟨some 5, .lit false 99 3 [(.tmp 2), (.tmp 3), (.tmp 4)],
    none⟩, ⟨some 6, .build [(.int .i64 0), (.int .i64 0), (.slice none 0 0)] [(0, 2, (.tmp 1)), (2, 1, (.tmp 5))], none⟩, ⟨none, .store 3 (.tmp 0) (.tmp 6), none⟩]) .ret))
theorem low85 : lowF Try.prog [] Try.f85 = some (7, lc85, [.cell 0 true 3]) := by kernel_rfl
theorem fn85 : FnOk Try.prog 85 7 lc85 [.cell 0 true 3] := ⟨Try.call85, [], _, Try.func85, low85⟩
/-- moonpool/moonpoollaw01.Currents -/
def lc86 : LCode :=
  (.seq (.region [⟨some 0, .mv (.const (.slice none 0 0)), none⟩]) (.seq (.region [⟨some 1, .lit false 3 1 [(.const (.int .i64 4)), (.const (.int .i64 (-2))), (.const (.int .i64
    7))], none⟩, ⟨some 0, .mv (.tmp 1), none⟩]) .ret))
theorem low86 : lowF Try.prog [] Try.f86 = some (2, lc86, [.tmp 0]) := by kernel_rfl
theorem fn86 : FnOk Try.prog 86 2 lc86 [.tmp 0] := ⟨Try.call86, [], _, Try.func86, low86⟩
/-- moonpool/moonpoollaw01.Box -/
def lc87 : LCode :=
  (.seq (.region [⟨some 0, .mv (.const (.slice none 0 0)), none⟩]) (.seq (.region [⟨some 1, .build [(.int .i64 0), (.int .i64 0)] [(0, 1, (.const (.int .i64 2))), (1, 1, (.const
    (.int .i64 4)))], none⟩, ⟨some 2, .build [(.int .i64 0), (.int .i64 0)] [(0, 1, (.const (.int .i64 (-2)))), (1, 1, (.const (.int .i64 0)))], none⟩, ⟨some 3, .build [(.int .i64
    0), (.int .i64 0)] [(0, 1, (.const (.int .i64 0))), (1, 1, (.const (.int .i64 9)))], none⟩, ⟨some 4, .lit false 85 2 [(.tmp 1), (.tmp 2), (.tmp 3)], none⟩, ⟨some 0, .mv (.tmp
    4), none⟩]) .ret))
theorem low87 : lowF Try.prog [] Try.f87 = some (5, lc87, [.tmp 0]) := by kernel_rfl
theorem fn87 : FnOk Try.prog 87 5 lc87 [.tmp 0] := ⟨Try.call87, [], _, Try.func87, low87⟩
/-- moonpool/cable.pathErr -/
def lc88 : LCode :=
  (.seq (.region [⟨some 2, .mv (.const (.int .i64 0)), none⟩]) (.seq (.region [⟨some 4, .mv (.tmp 0), none⟩, ⟨some 5, .call (.func 136) [(.tmp 4), (.func 137)], none⟩, ⟨some 3, .mv
    (.tmp 5), none⟩]) (.seq (.region [⟨some 6, .mv (.tmp 0), none⟩, ⟨some 7, .len (.tmp 6), none⟩, ⟨some 8, .bin .gtr (.tmp 7) (.const (.int .i64 0)), none⟩, ⟨some 9, .call (.func
    91) [(.tmp 8), (.const (.int .i64 10))], none⟩, ⟨some 10, .mv (.tmp 0), none⟩, ⟨some 11, .len (.tmp 10), none⟩, ⟨some 12, .bin .leq (.tmp 11) (.const (.int .i64 30)), none⟩,
    ⟨some 13, .call (.func 91) [(.tmp 12), (.const (.int .i64 8))], none⟩, ⟨some 14, .mv (.tmp 3), none⟩, ⟨some 15, .un .not (.tmp 14), none⟩, ⟨some 16, .call (.func 91) [(.tmp 15),
    (.const (.int .i64 2))], none⟩, ⟨some 17, .lit false 29 1 [(.tmp 9), (.tmp 13), (.tmp 16)], none⟩, ⟨some 18, .call (.func 90) [(.tmp 17)], none⟩, ⟨some 2, .mv (.tmp 18), none⟩])
    .ret)))
theorem low88 : lowF Try.prog [] Try.f88 = some (19, lc88, [.tmp 2]) := by kernel_rfl
theorem fn88 : FnOk Try.prog 88 19 lc88 [.tmp 2] := ⟨Try.call88, [], _, Try.func88, low88⟩
/-- moonpool/cable.wound -/
def lc89 : LCode :=
  (.seq (.region [⟨some 3, .box (.tmp 1), none⟩, ⟨some 4, .mv (.const (.int .i64 0)), none⟩, ⟨some 5, .mv (.const (.int .i64 0)), none⟩]) (.seq (.seq (.region [⟨some 8, .load true 2
    (.tmp 3), none⟩, ⟨some 9, .call (.func 138) [(.tmp 8)], none⟩, ⟨some 10, .un .not (.tmp 9), none⟩]) (.cond (.tmp 10) (.seq (.region [⟨some 4, .mv (.const (.int .i64 0)), none⟩,
    ⟨some 5, .mv (.const (.int .i64 2)), none⟩]) .ret) .skip)) (.seq (.region [⟨some 12, .mv (.tmp 0), none⟩, ⟨some 13, .load true 2 (.tmp 3), none⟩, ⟨some 14, .call (.func 139)
    [(.tmp 12), (.tmp 13)], none⟩, ⟨some 11, .mv (.tmp 14), none⟩, ⟨some 15, .ext (.tmp 11) 0, none⟩, ⟨some 16, .ext (.tmp 11) 1, none⟩, ⟨some 6, .mv (.tmp 15), none⟩, ⟨some 7, .mv
    (.tmp 16), none⟩]) (.seq (.region [⟨some 17, .mv (.tmp 6), none⟩, ⟨some 18, .mv (.tmp 7), none⟩, ⟨some 19, .call (.func 91) [(.tmp 18), (.const (.int .i64 13))], none⟩, ⟨some 4,
    .mv (.tmp 17), none⟩, ⟨some 5, .mv (.tmp 19), none⟩]) .ret))))
theorem low89 : lowF Try.prog [] Try.f89 = some (20, lc89, [.tmp 4, .tmp 5]) := by kernel_rfl
theorem fn89 : FnOk Try.prog 89 20 lc89 [.tmp 4, .tmp 5] := ⟨Try.call89, [], _, Try.func89, low89⟩
/-- moonpool/cable.first -/
def lc90 : LCode :=
  (.seq (.region [⟨some 2, .mv (.const (.int .i64 0)), none⟩]) (.seq (.seq (.region [⟨some 5, .mv (.tmp 0), none⟩, ⟨some 6, .len (.tmp 5), none⟩, ⟨some 7, .mv (.const (.int .i64
    0)), none⟩]) (.block 0 (.loop (.seq (.region [⟨some 8, .bin .lss (.tmp 7) (.tmp 6), none⟩]) (.seq (.cond (.tmp 8) .skip (.exit 0)) (.seq (.block 1 (.seq (.region [⟨some 9, .idx
    1 (.tmp 5) (.tmp 7), none⟩, ⟨some 10, .load false 1 (.tmp 9), none⟩, ⟨some 4, .mv (.tmp 10), none⟩]) (.seq (.region [⟨some 11, .mv (.tmp 4), none⟩, ⟨some 12, .bin .neq (.tmp 11)
    (.const (.int .i64 0)), none⟩]) (.cond (.tmp 12) (.seq (.region [⟨some 13, .mv (.tmp 4), none⟩, ⟨some 2, .mv (.tmp 13), none⟩]) .ret) .skip)))) (.region [⟨some 14, .bin .add
    (.tmp 7) (.const (.int .i64 1)), none⟩, ⟨some 7, .mv (.tmp 14), none⟩]))))))) (.seq (.region [⟨some 2, .mv (.const (.int .i64 0)), none⟩]) .ret)))
theorem low90 : lowF Try.prog [] Try.f90 = some (15, lc90, [.tmp 2]) := by kernel_rfl
theorem fn90 : FnOk Try.prog 90 15 lc90 [.tmp 2] := ⟨Try.call90, [], _, Try.func90, low90⟩
/-- moonpool/cable.unless -/
def lc91 : LCode :=
  (.seq (.region [⟨some 4, .mv (.const (.int .i64 0)), none⟩]) (.seq (.seq (.region [⟨some 5, .mv (.tmp 0), none⟩]) (.cond (.tmp 5) (.seq (.region [⟨some 4, .mv (.const (.int .i64
    0)), none⟩]) .ret) .skip)) (.seq (.region [⟨some 6, .mv (.tmp 1), none⟩, ⟨some 4, .mv (.tmp 6), none⟩]) .ret)))
theorem low91 : lowF Try.prog [] Try.f91 = some (7, lc91, [.tmp 4]) := by kernel_rfl
theorem fn91 : FnOk Try.prog 91 7 lc91 [.tmp 4] := ⟨Try.call91, [], _, Try.func91, low91⟩
/-- moonpool/cable.open -/
def lc95 : LCode :=
  (.seq (.region [⟨some 2, .box (.tmp 0), none⟩, ⟨some 4, .alloc [(.int .i64 0), (.int .i64 0), (.slice none 0 0), (.slice none 0 0)], none⟩, ⟨some 5, .mv (.const (.int .i64 0)),
    none⟩]) (.seq (.region [⟨some 12, .load true 3 (.tmp 2), none⟩, ⟨some 13, .call (.func 46) [(.tmp 12)], none⟩, ⟨some 11, .mv (.tmp 13), none⟩, ⟨some 14, .ext (.tmp 11) 0, none⟩,
    ⟨some 15, .ext (.tmp 11) 1, none⟩, ⟨some 6, .mv (.tmp 14), none⟩, ⟨some 7, .mv (.tmp 15), none⟩]) (.seq (.seq (.region [⟨some 16, .mv (.tmp 7), none⟩, ⟨some 17, .mv (.tmp 1),
    none⟩, ⟨some 18, .len (.tmp 17), none⟩, ⟨some 19, .fld 2 (.tmp 2), none⟩, ⟨some 20, .load false 1 (.tmp 19), none⟩, ⟨some 21, .len (.tmp 20), none⟩, ⟨some 22, .bin .eql (.tmp
    18) (.tmp 21), none⟩, ⟨some 23, .call (.func 91) [(.tmp 22), (.const (.int .i64 10))], none⟩, ⟨some 24, .lit false 29 1 [(.tmp 16), (.tmp 23)], none⟩, ⟨some 25, .call (.func 90)
    [(.tmp 24)], none⟩, ⟨some 7, .mv (.tmp 25), none⟩]) (.seq (.region [⟨some 26, .mv (.tmp 7), none⟩, ⟨some 27, .bin .neq (.tmp 26) (.const (.int .i64 0)), none⟩]) (.cond (.tmp 27)
    (.seq (.region [⟨some 28, .build [(.int .i64 0), (.int .i64 0), (.slice none 0 0), (.slice none 0 0)] [], none⟩, ⟨some 29, .mv (.tmp 7), none⟩, ⟨none, .store 4 (.tmp 4) (.tmp
    28), none⟩, ⟨some 5, .mv (.tmp 29), none⟩]) .ret) .skip))) (.seq (.region [⟨some 31, .mv (.tmp 1), none⟩, ⟨some 32, .call (.func 102) [(.tmp 31), (.func 140)], none⟩, ⟨some 30,
    .mv (.tmp 32), none⟩, ⟨some 33, .ext (.tmp 30) 0, none⟩, ⟨some 34, .ext (.tmp 30) 1, none⟩, ⟨some 7, .mv (.tmp 34), none⟩]) (.seq (.region [⟨some 35, .load true 3 (.tmp 2),
    none⟩, ⟨some 36, .build [(.int .i64 0), (.int .i64 0), (.slice none 0 0), (.slice none 0 0)] [(0, 3, (.tmp 35))], none⟩, ⟨some 8, .alloc [(.int .i64 0), (.int .i64 0), (.slice
    none 0 0), (.slice none 0 0)], none⟩, ⟨none, .store 4 (.tmp 8) (.tmp 36), none⟩]) (.seq (.seq (.region [⟨some 37, .mv (.tmp 1), none⟩, ⟨some 38, .len (.tmp 37), none⟩, ⟨some 39,
    .mv (.const (.int .i64 0)), none⟩]) (.block 0 (.loop (.seq (.region [⟨some 40, .bin .lss (.tmp 39) (.tmp 38), none⟩]) (.seq (.cond (.tmp 40) .skip (.exit 0)) (.seq (.block 1
    (.seq (.region [⟨some 41, .idx 1 (.tmp 37) (.tmp 39), none⟩, ⟨some 42, .load false 1 (.tmp 41), none⟩, ⟨some 10, .mv (.tmp 42), none⟩]) (.region [⟨some 43, .fld 3 (.tmp 8),
    none⟩, ⟨some 44, .load false 1 (.tmp 43), none⟩, ⟨some 45, .mv (.tmp 10), none⟩, ⟨some 46, .mv (.tmp 10), none⟩, ⟨some 47, .build [(.int .i64 0), (.int .i64 0)] [(0, 1, (.tmp
    45)), (1, 1, (.tmp 46))], none⟩, ⟨some 48, .lit false 85 2 [(.tmp 47)], none⟩, ⟨some 49, .append true 85 2 16 (.tmp 44) (.tmp 48), none⟩, ⟨some 50, .fld 3 (.tmp 8), none⟩,
    ⟨none, .store 1 (.tmp 50) (.tmp 49), none⟩]))) (.region [⟨some 51, .bin .add (.tmp 39) (.const (.int .i64 1)), none⟩, ⟨some 39, .mv (.tmp 51), none⟩]))))))) (.seq (.region
    [⟨some 52, .load true 4 (.tmp 8), none⟩, ⟨some 53, .mv (.tmp 7), none⟩, ⟨none, .store 4 (.tmp 4) (.tmp 52), none⟩, ⟨some 5, .mv (.tmp 53), none⟩]) .ret)))))))
theorem low95 : lowF Try.prog [49] Try.f95 = some (54, lc95, [.cell 4 true 4, .tmp 5]) := by kernel_rfl
theorem fn95 : FnOk Try.prog 95 54 lc95 [.cell 4 true 4, .tmp 5] := ⟨Try.call95, [49], _, Try.func95, low95⟩
def ra96 : LCode :=
  (.region [⟨some 5, .alloc [(.int .i64 0), (.int .i64 0), (.int .i64 0), (.int .i64 0)], none⟩, ⟨none, .store 4 (.tmp 5) (.tmp 9), none⟩])
def rb96 : LCode :=
  (.block 1 (.region [⟨some 10, .load false 1 (.tmp 3), none⟩, ⟨some 11, .fld 0 (.tmp 5), none⟩, ⟨some 12, .fld 0 (.tmp 11), none⟩, ⟨some 13, .load false 1 (.tmp 12), none⟩, ⟨some
    14, .fld 2 (.tmp 5), none⟩, ⟨some 15, .load false 1 (.tmp 14), none⟩, ⟨some 16, .build [(.int .i64 0), (.int .i64 0)] [(0, 1, (.tmp 13)), (1, 1, (.tmp 15))], none⟩, ⟨some 17,
    .lit false 46 2 [(.tmp 16)], none⟩, ⟨some 18, .append true 46 2 16 (.tmp 10) (.tmp 17), none⟩, ⟨none, .store 1 (.tmp 3) (.tmp 18), none⟩]))
/-- (moonpool/cable.line).tensions -/
def lc96 : LCode :=
  (.seq (.region [⟨some 1, .box (.tmp 0), none⟩, ⟨some 2, .mv (.const (.slice none 0 0)), none⟩]) (.seq (.region [⟨some 3, .alloc [(.slice none 0 0)], none⟩]) (.seq (.seq (.region
    [⟨some 6, .load true 4 (.tmp 1), none⟩, ⟨some 7, .call (.func 113) [(.tmp 6)], none⟩]) (.block 0 (.rangeFunc (.tmp 7) [8, 9] ra96 rb96))) (.seq (.region [⟨some 19, .load false 1
    (.tmp 3), none⟩, ⟨some 2, .mv (.tmp 19), none⟩]) .ret))))
theorem low96 : lowF Try.prog [18] Try.f96 = some (20, lc96, [.tmp 2]) := by kernel_rfl
theorem fn96 : FnOk Try.prog 96 20 lc96 [.tmp 2] := ⟨Try.call96, [18], _, Try.func96, low96⟩
/-- moonpool/cable.square -/
def lc99 : LCode :=
  (.seq (.region [⟨some 1, .box (.tmp 0), none⟩, ⟨some 2, .mv (.const (.int .i64 0)), none⟩]) (.seq (.region [⟨some 3, .fld 0 (.tmp 1), none⟩, ⟨some 4, .load false 1 (.tmp 3),
    none⟩, ⟨some 5, .fld 0 (.tmp 1), none⟩, ⟨some 6, .load false 1 (.tmp 5), none⟩, ⟨some 7, .bin .mul (.tmp 4) (.tmp 6), none⟩, ⟨some 8, .fld 1 (.tmp 1), none⟩, ⟨some 9, .load
    false 1 (.tmp 8), none⟩, ⟨some 10, .fld 1 (.tmp 1), none⟩, ⟨some 11, .load false 1 (.tmp 10), none⟩, ⟨some 12, .bin .mul (.tmp 9) (.tmp 11), none⟩, ⟨some 13, .bin .add (.tmp 7)
    (.tmp 12), none⟩, ⟨some 2, .mv (.tmp 13), none⟩]) .ret))
theorem low99 : lowF Try.prog [] Try.f99 = some (14, lc99, [.tmp 2]) := by kernel_rfl
theorem fn99 : FnOk Try.prog 99 14 lc99 [.tmp 2] := ⟨Try.call99, [], _, Try.func99, low99⟩
/-- moonpool/moonpoolref01.isCurrent -/
def lc100 : LCode :=
  (.seq (.region [⟨some 2, .mv (.const (.bool false)), none⟩]) (.seq (.region [⟨some 3, .mv (.tmp 0), none⟩, ⟨some 4, .call (.func 16) [(.tmp 3), (.const (.int .i64 (-50))), (.const
    (.int .i64 50))], none⟩, ⟨some 2, .mv (.tmp 4), none⟩]) .ret))
theorem low100 : lowF Try.prog [] Try.f100 = some (5, lc100, [.tmp 2]) := by kernel_rfl
theorem fn100 : FnOk Try.prog 100 5 lc100 [.tmp 2] := ⟨Try.call100, [], _, Try.func100, low100⟩
/-- moonpool/cable.each[int] -/
def lc102 : LCode :=
  (.seq (.region [⟨some 4, .mv (.const (.int .i64 0)), none⟩, ⟨some 5, .mv (.const (.int .i64 0)), none⟩]) (.seq (.seq (.region [⟨some 9, .mv (.tmp 0), none⟩, ⟨some 10, .len (.tmp
    9), none⟩, ⟨some 11, .mv (.const (.int .i64 0)), none⟩]) (.block 0 (.loop (.seq (.region [⟨some 12, .bin .lss (.tmp 11) (.tmp 10), none⟩]) (.seq (.cond (.tmp 12) .skip (.exit
    0)) (.seq (.block 1 (.seq (.region [⟨some 13, .mv (.tmp 11), none⟩, ⟨some 14, .idx 1 (.tmp 9) (.tmp 11), none⟩, ⟨some 15, .load false 1 (.tmp 14), none⟩, ⟨some 6, .mv (.tmp 13),
    none⟩, ⟨some 7, .mv (.tmp 15), none⟩]) (.seq (.region [⟨some 16, .mv (.tmp 1), none⟩, ⟨some 17, .mv (.tmp 6), none⟩, ⟨some 18, .mv (.tmp 7), none⟩, ⟨some 19, .call (.tmp 16)
    [(.tmp 17), (.tmp 18)], none⟩, ⟨some 8, .mv (.tmp 19), none⟩]) (.seq (.region [⟨some 20, .mv (.tmp 8), none⟩, ⟨some 21, .bin .neq (.tmp 20) (.const (.int .i64 0)), none⟩])
    (.cond (.tmp 21) (.seq (.region [⟨some 22, .mv (.tmp 6), none⟩, ⟨some 23, .mv (.tmp 8), none⟩, ⟨some 4, .mv (.tmp 22), none⟩, ⟨some 5, .mv (.tmp 23), none⟩]) .ret) .skip)))))
    (.region [⟨some 24, .bin .add (.tmp 11) (.const (.int .i64 1)), none⟩, ⟨some 11, .mv (.tmp 24), none⟩]))))))) (.seq (.region [⟨some 4, .mv (.const (.int .i64 0)), none⟩, ⟨some
    5, .mv (.const (.int .i64 0)), none⟩]) .ret)))
theorem low102 : lowF Try.prog [] Try.f102 = some (25, lc102, [.tmp 4, .tmp 5]) := by kernel_rfl
theorem fn102 : FnOk Try.prog 102 25 lc102 [.tmp 4, .tmp 5] := ⟨Try.call102, [], _, Try.func102, low102⟩
/-- moonpool/cable.within -/
def lc104 : LCode :=
  (.seq (.region [⟨some 6, .mv (.const (.bool false)), none⟩]) (.seq (.region [⟨some 7, .mv (.tmp 1), none⟩, ⟨some 8, .mv (.tmp 0), none⟩, ⟨some 9, .bin .leq (.tmp 7) (.tmp 8),
    none⟩, ⟨some 10, .mv (.tmp 9), none⟩, ⟨some 11, .mv (.tmp 0), some (10, true)⟩, ⟨some 12, .mv (.tmp 2), some (10, true)⟩, ⟨some 13, .bin .leq (.tmp 11) (.tmp 12), some (10,
    true)⟩, ⟨some 14, .pick (.tmp 10) (.tmp 13) (.const (.bool false)), none⟩, ⟨some 6, .mv (.tmp 14), none⟩]) .ret))
theorem low104 : lowF Try.prog [] Try.f104 = some (15, lc104, [.tmp 6]) := by kernel_rfl
theorem fn104 : FnOk Try.prog 104 15 lc104 [.tmp 6] := ⟨Try.call104, [], _, Try.func104, low104⟩
/-- moonpool/cable.isSized -/
def lc106 : LCode :=
  (.seq (.region [⟨some 4, .mv (.const (.bool false)), none⟩]) (.seq (.region [⟨some 5, .mv (.tmp 0), none⟩, ⟨some 6, .mv (.tmp 1), none⟩, ⟨some 7, .un .neg (.tmp 6), none⟩, ⟨some
    8, .mv (.tmp 1), none⟩, ⟨some 9, .call (.func 104) [(.tmp 5), (.tmp 7), (.tmp 8)], none⟩, ⟨some 4, .mv (.tmp 9), none⟩]) .ret))
theorem low106 : lowF Try.prog [] Try.f106 = some (10, lc106, [.tmp 4]) := by kernel_rfl
theorem fn106 : FnOk Try.prog 106 10 lc106 [.tmp 4] := ⟨Try.call106, [], _, Try.func106, low106⟩
/-- moonpool/cable.each[moonpool/api.CableLink] -/
def lc107 : LCode :=
  (.seq (.region [⟨some 4, .mv (.const (.int .i64 0)), none⟩, ⟨some 5, .mv (.const (.int .i64 0)), none⟩]) (.seq (.seq (.region [⟨some 9, .mv (.tmp 0), none⟩, ⟨some 10, .len (.tmp
    9), none⟩, ⟨some 11, .mv (.const (.int .i64 0)), none⟩]) (.block 0 (.loop (.seq (.region [⟨some 12, .bin .lss (.tmp 11) (.tmp 10), none⟩]) (.seq (.cond (.tmp 12) .skip (.exit
    0)) (.seq (.block 1 (.seq (.region [⟨some 13, .mv (.tmp 11), none⟩, ⟨some 14, .idx 3 (.tmp 9) (.tmp 11), none⟩, ⟨some 15, .load true 3 (.tmp 14), none⟩, ⟨some 7, .alloc [(.int
    .i64 0), (.int .i64 0), (.int .i64 0)], none⟩, ⟨some 6, .mv (.tmp 13), none⟩, ⟨none, .store 3 (.tmp 7) (.tmp 15), none⟩]) (.seq (.region [⟨some 16, .mv (.tmp 1), none⟩, ⟨some
    17, .mv (.tmp 6), none⟩, ⟨some 18, .load true 3 (.tmp 7), none⟩, ⟨some 19, .call (.tmp 16) [(.tmp 17), (.tmp 18)], none⟩, ⟨some 8, .mv (.tmp 19), none⟩]) (.seq (.region [⟨some
    20, .mv (.tmp 8), none⟩, ⟨some 21, .bin .neq (.tmp 20) (.const (.int .i64 0)), none⟩]) (.cond (.tmp 21) (.seq (.region [⟨some 22, .mv (.tmp 6), none⟩, ⟨some 23, .mv (.tmp 8),
    none⟩, ⟨some 4, .mv (.tmp 22), none⟩, ⟨some 5, .mv (.tmp 23), none⟩]) .ret) .skip))))) (.region [⟨some 24, .bin .add (.tmp 11) (.const (.int .i64 1)), none⟩, ⟨some 11, .mv (.tmp
    24), none⟩]))))))) (.seq (.region [⟨some 4, .mv (.const (.int .i64 0)), none⟩, ⟨some 5, .mv (.const (.int .i64 0)), none⟩]) .ret)))
theorem low107 : lowF Try.prog [] Try.f107 = some (25, lc107, [.tmp 4, .tmp 5]) := by kernel_rfl
theorem fn107 : FnOk Try.prog 107 25 lc107 [.tmp 4, .tmp 5] := ⟨Try.call107, [], _, Try.func107, low107⟩
/-- moonpool/cable.CheckLine$1 -/
def lc108 : LCode :=
  (.seq (.region [⟨some 3, .box (.tmp 1), none⟩, ⟨some 4, .mv (.const (.int .i64 0)), none⟩]) (.seq (.region [⟨some 6, .fld 0 (.tmp 3), none⟩, ⟨some 7, .load false 1 (.tmp 6),
    none⟩, ⟨some 8, .call (.func 104) [(.tmp 7), (.const (.int .i64 1)), (.const (.int .i64 1000))], none⟩, ⟨some 9, .mv (.tmp 8), none⟩, ⟨some 10, .fld 1 (.tmp 3), some (9, true)⟩,
    ⟨some 11, .load false 1 (.tmp 10), some (9, true)⟩, ⟨some 12, .call (.func 106) [(.tmp 11), (.const (.int .i64 1000))], some (9, true)⟩, ⟨some 13, .pick (.tmp 9) (.tmp 12)
    (.const (.bool false)), none⟩, ⟨some 14, .mv (.tmp 13), none⟩, ⟨some 15, .fld 2 (.tmp 3), some (14, true)⟩, ⟨some 16, .load false 1 (.tmp 15), some (14, true)⟩, ⟨some 17, .call
    (.func 104) [(.tmp 16), (.const (.int .i64 0)), (.const (.int .i64 20))], some (14, true)⟩, ⟨some 18, .pick (.tmp 14) (.tmp 17) (.const (.bool false)), none⟩, ⟨some 5, .mv (.tmp
    18), none⟩]) (.seq (.region [⟨some 19, .mv (.tmp 5), none⟩, ⟨some 20, .call (.func 91) [(.tmp 19), (.const (.int .i64 2))], none⟩, ⟨some 4, .mv (.tmp 20), none⟩]) .ret)))
theorem low108 : lowF Try.prog [] Try.f108 = some (21, lc108, [.tmp 4]) := by kernel_rfl
theorem fn108 : FnOk Try.prog 108 21 lc108 [.tmp 4] := ⟨Try.call108, [], _, Try.func108, low108⟩
/-- moonpool/cable.each[moonpool/api.Range] -/
def lc109 : LCode :=
  (.seq (.region [⟨some 4, .mv (.const (.int .i64 0)), none⟩, ⟨some 5, .mv (.const (.int .i64 0)), none⟩]) (.seq (.seq (.region [⟨some 9, .mv (.tmp 0), none⟩, ⟨some 10, .len (.tmp
    9), none⟩, ⟨some 11, .mv (.const (.int .i64 0)), none⟩]) (.block 0 (.loop (.seq (.region [⟨some 12, .bin .lss (.tmp 11) (.tmp 10), none⟩]) (.seq (.cond (.tmp 12) .skip (.exit
    0)) (.seq (.block 1 (.seq (.region [⟨some 13, .mv (.tmp 11), none⟩, ⟨some 14, .idx 2 (.tmp 9) (.tmp 11), none⟩, ⟨some 15, .load true 2 (.tmp 14), none⟩, ⟨some 7, .alloc [(.int
    .i64 0), (.int .i64 0)], none⟩, ⟨some 6, .mv (.tmp 13), none⟩, ⟨none, .store 2 (.tmp 7) (.tmp 15), none⟩]) (.seq (.region [⟨some 16, .mv (.tmp 1), none⟩, ⟨some 17, .mv (.tmp 6),
    none⟩, ⟨some 18, .load true 2 (.tmp 7), none⟩, ⟨some 19, .call (.tmp 16) [(.tmp 17), (.tmp 18)], none⟩, ⟨some 8, .mv (.tmp 19), none⟩]) (.seq (.region [⟨some 20, .mv (.tmp 8),
    none⟩, ⟨some 21, .bin .neq (.tmp 20) (.const (.int .i64 0)), none⟩]) (.cond (.tmp 21) (.seq (.region [⟨some 22, .mv (.tmp 6), none⟩, ⟨some 23, .mv (.tmp 8), none⟩, ⟨some 4, .mv
    (.tmp 22), none⟩, ⟨some 5, .mv (.tmp 23), none⟩]) .ret) .skip))))) (.region [⟨some 24, .bin .add (.tmp 11) (.const (.int .i64 1)), none⟩, ⟨some 11, .mv (.tmp 24), none⟩])))))))
    (.seq (.region [⟨some 4, .mv (.const (.int .i64 0)), none⟩, ⟨some 5, .mv (.const (.int .i64 0)), none⟩]) .ret)))
theorem low109 : lowF Try.prog [] Try.f109 = some (25, lc109, [.tmp 4, .tmp 5]) := by kernel_rfl
theorem fn109 : FnOk Try.prog 109 25 lc109 [.tmp 4, .tmp 5] := ⟨Try.call109, [], _, Try.func109, low109⟩
/-- moonpool/cable.CheckBox$1 -/
def lc110 : LCode :=
  (.seq (.region [⟨some 3, .box (.tmp 1), none⟩, ⟨some 4, .mv (.const (.int .i64 0)), none⟩]) (.seq (.regionD [⟨some 5, .fld 0 (.tmp 3), none⟩, ⟨some 6, .load false 1 (.tmp 5),
    none⟩, ⟨some 7, .call (.func 111) [(.tmp 6)], none⟩, ⟨some 8, .mv (.tmp 7), none⟩, ⟨some 9, .fld 1 (.tmp 3), some (8, true)⟩, ⟨some 10, .load false 1 (.tmp 9), some (8, true)⟩,
    ⟨some 11, .call (.func 111) [(.tmp 10)], some (8, true)⟩, ⟨some 12, .pick (.tmp 8) (.tmp 11) (.const (.bool false)), none⟩, ⟨some 13, .call (.func 91) [(.tmp 12), (.const (.int
    .i64 2))], none⟩, ⟨some 14, .fld 0 (.tmp 3), none⟩, ⟨some 15, .load false 1 (.tmp 14), none⟩, ⟨some 16, .fld 1 (.tmp 3), none⟩, ⟨some 17, .load false 1 (.tmp 16), none⟩, ⟨some
    18, .bin .leq (.tmp 15) (.tmp 17), none⟩, ⟨some 19, .call (.func 91) [(.tmp 18), (.const (.int .i64 9))], none⟩, ⟨some 20, .lit false 29 1 [(.tmp 13), (.tmp 19)], none⟩, ⟨some
    21, .call (.func 90) [(.tmp 20)], none⟩, ⟨some 4, .mv (.tmp 21), none⟩] [0, 1, 3, 7, 15, 31, 63, 127, 255, 0, 512, 0, 2048, 7680, 16383, 32767, 65535, 131071] [0, 1, 2, 3, 4, 5,
    6, 7, 8, 9, 10, 11, 12, 13, 14, 15, 16, 17]) .ret))
theorem low110 : lowF Try.prog [] Try.f110 = some (22, lc110, [.tmp 4]) := by kernel_rfl
theorem fn110 : FnOk Try.prog 110 22 lc110 [.tmp 4] := ⟨Try.call110, [], _, Try.func110, low110⟩
end Go.Pw

set_option linter.unusedVariables false
set_option maxHeartbeats 2000000
set_option maxRecDepth 100000
namespace Go.Pw
open Go Go.Proofs
/-- moonpool/cable.isCurrent -/
def lc111 : LCode :=
  (.seq (.region [⟨some 2, .mv (.const (.bool false)), none⟩]) (.seq (.region [⟨some 3, .mv (.tmp 0), none⟩, ⟨some 4, .call (.func 106) [(.tmp 3), (.const (.int .i64 50))], none⟩,
    ⟨some 2, .mv (.tmp 4), none⟩]) .ret))
theorem low111 : lowF Try.prog [] Try.f111 = some (5, lc111, [.tmp 2]) := by kernel_rfl
theorem fn111 : FnOk Try.prog 111 5 lc111 [.tmp 2] := ⟨Try.call111, [], _, Try.func111, low111⟩
/-- (moonpool/cable.line).pulls -/
def lc113 : LCode :=
  (.seq (.region [⟨some 1, .box (.tmp 0), none⟩, ⟨some 2, .mv (.const .nilFunc), none⟩]) (.seq (.region [⟨some 3, .mkfn 141 [(.tmp 1)], none⟩, ⟨some 2, .mv (.tmp 3), none⟩]) .ret))
theorem low113 : lowF Try.prog [] Try.f113 = some (4, lc113, [.tmp 2]) := by kernel_rfl
theorem fn113 : FnOk Try.prog 113 4 lc113 [.tmp 2] := ⟨Try.call113, [], _, Try.func113, low113⟩
/-- moonpool/cable.tight -/
def lc116 : LCode :=
  (.seq (.region [⟨some 2, .box (.tmp 0), none⟩, ⟨some 4, .alloc [(.int .i64 0), (.int .i64 0), (.slice none 0 0), (.slice none 0 0)], none⟩, ⟨some 5, .mv (.const (.int .i64 0)),
    none⟩]) (.seq (.seq (.region [⟨some 6, .mv (.tmp 1), none⟩, ⟨some 7, .bin .eql (.tmp 6) (.const (.int .i64 0)), none⟩]) (.cond (.tmp 7) (.region [⟨some 8, .load true 4 (.tmp 2),
    none⟩, ⟨some 9, .call (.func 142) [(.tmp 8)], none⟩, ⟨some 1, .mv (.tmp 9), none⟩]) .skip)) (.seq (.region [⟨some 10, .load true 4 (.tmp 2), none⟩, ⟨some 11, .mv (.tmp 1),
    none⟩, ⟨none, .store 4 (.tmp 4) (.tmp 10), none⟩, ⟨some 5, .mv (.tmp 11), none⟩]) .ret)))
theorem low116 : lowF Try.prog [] Try.f116 = some (12, lc116, [.cell 4 true 4, .tmp 5]) := by kernel_rfl
theorem fn116 : FnOk Try.prog 116 12 lc116 [.cell 4 true 4, .tmp 5] := ⟨Try.call116, [], _, Try.func116, low116⟩
/-- moonpool/cable.fraction -/
def lc117 : LCode :=
  (.seq (.region [⟨some 4, .alloc [(.int .i64 0), (.int .i64 0)], none⟩]) (.seq (.region [⟨some 6, .mv (.tmp 0), none⟩, ⟨some 7, .mv (.tmp 1), none⟩, ⟨some 8, .call (.func 143)
    [(.tmp 6), (.tmp 7)], none⟩, ⟨some 5, .mv (.tmp 8), none⟩]) (.seq (.regionD [⟨some 9, .mv (.tmp 0), none⟩, ⟨some 10, .mv (.tmp 5), none⟩, ⟨some 11, .bin .quo (.tmp 9) (.tmp 10),
    none⟩, ⟨some 12, .mv (.tmp 1), none⟩, ⟨some 13, .mv (.tmp 5), none⟩, ⟨some 14, .bin .quo (.tmp 12) (.tmp 13), none⟩, ⟨some 15, .build [(.int .i64 0), (.int .i64 0)] [(0, 1,
    (.tmp 11)), (1, 1, (.tmp 14))], none⟩, ⟨none, .store 2 (.tmp 4) (.tmp 15), none⟩] [0, 0, 3, 0, 0, 24, 63, 127] [0, 1, 2, 3, 4, 5, 6, 7]) .ret)))
theorem low117 : lowF Try.prog [] Try.f117 = some (16, lc117, [.cell 4 true 2]) := by kernel_rfl
theorem fn117 : FnOk Try.prog 117 16 lc117 [.cell 4 true 2] := ⟨Try.call117, [], _, Try.func117, low117⟩
def ra118 : LCode :=
  (.region [⟨some 5, .alloc [(.int .i64 0), (.int .i64 0), (.int .i64 0), (.int .i64 0)], none⟩, ⟨none, .store 4 (.tmp 5) (.tmp 9), none⟩])
def rb118 : LCode :=
  (.block 1 (.seq (.regionD [⟨some 10, .fld 0 (.tmp 3), none⟩, ⟨some 11, .load false 1 (.tmp 10), none⟩, ⟨some 12, .fld 3 (.tmp 5), none⟩, ⟨some 13, .load false 1 (.tmp 12), none⟩,
    ⟨some 14, .fld 0 (.tmp 5), none⟩, ⟨some 15, .fld 0 (.tmp 14), none⟩, ⟨some 16, .load false 1 (.tmp 15), none⟩, ⟨some 17, .bin .mul (.tmp 13) (.tmp 16), none⟩, ⟨some 18, .fld 2
    (.tmp 5), none⟩, ⟨some 19, .load false 1 (.tmp 18), none⟩, ⟨some 20, .call (.func 144) [(.tmp 17), (.tmp 19)], none⟩, ⟨some 21, .bin .add (.tmp 11) (.tmp 20), none⟩, ⟨some 22,
    .fld 0 (.tmp 3), none⟩, ⟨none, .store 1 (.tmp 22) (.tmp 21), none⟩] [0, 1, 0, 4, 0, 16, 48, 124, 0, 256, 1020, 2047, 4095, 8191] [0, 1, 2, 3, 4, 5, 6, 7, 8, 9, 10, 11, 12, 13])
    (.regionD [⟨some 23, .fld 1 (.tmp 3), none⟩, ⟨some 24, .load false 1 (.tmp 23), none⟩, ⟨some 25, .fld 3 (.tmp 5), none⟩, ⟨some 26, .load false 1 (.tmp 25), none⟩, ⟨some 27, .fld
    0 (.tmp 5), none⟩, ⟨some 28, .fld 1 (.tmp 27), none⟩, ⟨some 29, .load false 1 (.tmp 28), none⟩, ⟨some 30, .bin .mul (.tmp 26) (.tmp 29), none⟩, ⟨some 31, .fld 2 (.tmp 5), none⟩,
    ⟨some 32, .load false 1 (.tmp 31), none⟩, ⟨some 33, .call (.func 145) [(.tmp 30), (.tmp 32)], none⟩, ⟨some 34, .bin .add (.tmp 24) (.tmp 33), none⟩, ⟨some 35, .fld 1 (.tmp 3),
    none⟩, ⟨none, .store 1 (.tmp 35) (.tmp 34), none⟩] [0, 1, 0, 4, 0, 16, 48, 124, 0, 256, 1020, 2047, 4095, 8191] [0, 1, 2, 3, 4, 5, 6, 7, 8, 9, 10, 11, 12, 13])))
/-- (moonpool/cable.line).layback -/
def lc118 : LCode :=
  (.seq (.region [⟨some 1, .box (.tmp 0), none⟩, ⟨some 2, .alloc [(.int .i64 0), (.int .i64 0)], none⟩]) (.seq (.region [⟨some 3, .alloc [(.int .i64 0), (.int .i64 0)], none⟩])
    (.seq (.seq (.region [⟨some 6, .load true 4 (.tmp 1), none⟩, ⟨some 7, .call (.func 113) [(.tmp 6)], none⟩]) (.block 0 (.rangeFunc (.tmp 7) [8, 9] ra118 rb118))) (.seq (.region
    [⟨some 36, .load true 2 (.tmp 3), none⟩, ⟨none, .store 2 (.tmp 2) (.tmp 36), none⟩]) .ret))))
theorem low118 : lowF Try.prog [] Try.f118 = some (37, lc118, [.cell 2 true 2]) := by kernel_rfl
theorem fn118 : FnOk Try.prog 118 37 lc118 [.cell 2 true 2] := ⟨Try.call118, [], _, Try.func118, low118⟩
/-- (moonpool/cable.pull).length -/
def lc119 : LCode :=
  (.seq (.region [⟨some 2, .box (.tmp 0), none⟩, ⟨some 4, .alloc [(.int .i64 0), (.int .i64 0)], none⟩]) (.seq (.regionD [⟨some 9, .fld 3 (.tmp 2), none⟩, ⟨some 10, .load false 1
    (.tmp 9), none⟩, ⟨some 11, .fld 3 (.tmp 2), none⟩, ⟨some 12, .load false 1 (.tmp 11), none⟩, ⟨some 13, .bin .mul (.tmp 10) (.tmp 12), none⟩, ⟨some 14, .mv (.tmp 1), none⟩, ⟨some
    15, .mv (.tmp 1), none⟩, ⟨some 16, .bin .mul (.tmp 14) (.tmp 15), none⟩, ⟨some 17, .fld 2 (.tmp 2), none⟩, ⟨some 18, .load false 1 (.tmp 17), none⟩, ⟨some 19, .fld 2 (.tmp 2),
    none⟩, ⟨some 20, .load false 1 (.tmp 19), none⟩, ⟨some 21, .bin .mul (.tmp 18) (.tmp 20), none⟩, ⟨some 22, .bin .add (.tmp 16) (.tmp 21), none⟩, ⟨some 23, .bin .mul (.tmp 13)
    (.tmp 22), none⟩, ⟨some 24, .fld 2 (.tmp 2), none⟩, ⟨some 25, .load false 1 (.tmp 24), none⟩, ⟨some 26, .fld 2 (.tmp 2), none⟩, ⟨some 27, .load false 1 (.tmp 26), none⟩, ⟨some
    28, .bin .mul (.tmp 25) (.tmp 27), none⟩, ⟨some 5, .mv (.tmp 23), none⟩, ⟨some 6, .mv (.tmp 28), none⟩] [0, 1, 0, 4, 15, 0, 0, 96, 0, 256, 0, 1024, 3840, 8160, 16383, 0, 32768,
    0, 131072, 491520, 32767, 2097151] [0, 1, 2, 3, 4, 5, 6, 7, 8, 9, 10, 11, 12, 13, 14, 15, 16, 17, 18, 19, 20, 21]) (.seq (.region [⟨some 29, .mv (.tmp 5), none⟩, ⟨some 30, .mv
    (.tmp 6), none⟩, ⟨some 31, .bin .quo (.tmp 29) (.tmp 30), none⟩, ⟨some 32, .call (.func 146) [(.tmp 31)], none⟩, ⟨some 7, .mv (.tmp 32), none⟩]) (.seq (.region [⟨some 33, .mv
    (.tmp 7), none⟩, ⟨some 34, .mv (.tmp 7), none⟩, ⟨some 35, .build [(.int .i64 0), (.int .i64 0)] [(0, 1, (.tmp 33)), (1, 1, (.tmp 34))], none⟩, ⟨some 8, .alloc [(.int .i64 0),
    (.int .i64 0)], none⟩, ⟨none, .store 2 (.tmp 8) (.tmp 35), none⟩]) (.seq (.seq (.region [⟨some 36, .mv (.tmp 7), none⟩, ⟨some 37, .mv (.tmp 7), none⟩, ⟨some 38, .bin .mul (.tmp
    36) (.tmp 37), none⟩, ⟨some 39, .mv (.tmp 6), none⟩, ⟨some 40, .bin .mul (.tmp 38) (.tmp 39), none⟩, ⟨some 41, .mv (.tmp 5), none⟩, ⟨some 42, .bin .neq (.tmp 40) (.tmp 41),
    none⟩]) (.cond (.tmp 42) (.region [⟨some 43, .fld 1 (.tmp 8), none⟩, ⟨some 44, .load false 1 (.tmp 43), none⟩, ⟨some 45, .bin .add (.tmp 44) (.const (.int .i64 1)), none⟩, ⟨some
    46, .fld 1 (.tmp 8), none⟩, ⟨none, .store 1 (.tmp 46) (.tmp 45), none⟩]) .skip)) (.seq (.region [⟨some 47, .load true 2 (.tmp 8), none⟩, ⟨none, .store 2 (.tmp 4) (.tmp 47),
    none⟩]) .ret))))))
theorem low119 : lowF Try.prog [] Try.f119 = some (48, lc119, [.cell 4 true 2]) := by kernel_rfl
theorem fn119 : FnOk Try.prog 119 48 lc119 [.cell 4 true 2] := ⟨Try.call119, [], _, Try.func119, low119⟩
/-- moonpool/cable.isLess -/
def lc120 : LCode :=
  (.seq (.region [⟨some 2, .box (.tmp 0), none⟩, ⟨some 3, .box (.tmp 1), none⟩, ⟨some 4, .mv (.const (.bool false)), none⟩]) (.seq (.region [⟨some 10, .fld 0 (.tmp 2), none⟩, ⟨some
    11, .load false 1 (.tmp 10), none⟩, ⟨some 12, .conv .u64 (.tmp 11), none⟩, ⟨some 13, .fld 1 (.tmp 3), none⟩, ⟨some 14, .load false 1 (.tmp 13), none⟩, ⟨some 15, .conv .u64 (.tmp
    14), none⟩, ⟨some 16, .call (.func 147) [(.tmp 12), (.tmp 15)], none⟩, ⟨some 9, .mv (.tmp 16), none⟩, ⟨some 17, .ext (.tmp 9) 0, none⟩, ⟨some 18, .ext (.tmp 9) 1, none⟩, ⟨some
    5, .mv (.tmp 17), none⟩, ⟨some 6, .mv (.tmp 18), none⟩]) (.seq (.region [⟨some 20, .fld 0 (.tmp 3), none⟩, ⟨some 21, .load false 1 (.tmp 20), none⟩, ⟨some 22, .conv .u64 (.tmp
    21), none⟩, ⟨some 23, .fld 1 (.tmp 2), none⟩, ⟨some 24, .load false 1 (.tmp 23), none⟩, ⟨some 25, .conv .u64 (.tmp 24), none⟩, ⟨some 26, .call (.func 147) [(.tmp 22), (.tmp
    25)], none⟩, ⟨some 19, .mv (.tmp 26), none⟩, ⟨some 27, .ext (.tmp 19) 0, none⟩, ⟨some 28, .ext (.tmp 19) 1, none⟩, ⟨some 7, .mv (.tmp 27), none⟩, ⟨some 8, .mv (.tmp 28), none⟩])
    (.seq (.region [⟨some 29, .mv (.tmp 5), none⟩, ⟨some 30, .mv (.tmp 7), none⟩, ⟨some 31, .bin .lss (.tmp 29) (.tmp 30), none⟩, ⟨some 32, .mv (.tmp 31), none⟩, ⟨some 33, .mv (.tmp
    5), some (32, false)⟩, ⟨some 34, .mv (.tmp 7), some (32, false)⟩, ⟨some 35, .bin .eql (.tmp 33) (.tmp 34), some (32, false)⟩, ⟨some 36, .mv (.tmp 35), some (32, false)⟩, ⟨some
    37, .mv (.tmp 6), some (36, true)⟩, ⟨some 38, .mv (.tmp 8), some (36, true)⟩, ⟨some 39, .bin .lss (.tmp 37) (.tmp 38), some (36, true)⟩, ⟨some 40, .pick (.tmp 36) (.tmp 39)
    (.const (.bool false)), some (32, false)⟩, ⟨some 41, .pick (.tmp 32) (.const (.bool true)) (.tmp 40), none⟩, ⟨some 4, .mv (.tmp 41), none⟩]) .ret))))
theorem low120 : lowF Try.prog [] Try.f120 = some (42, lc120, [.tmp 4]) := by kernel_rfl
theorem fn120 : FnOk Try.prog 120 42 lc120 [.tmp 4] := ⟨Try.call120, [], _, Try.func120, low120⟩
/-- moonpool/cable.openBox -/
def lc127 : LCode :=
  (.seq (.region [⟨some 2, .box (.tmp 0), none⟩, ⟨some 4, .alloc [(.int .i64 0), (.int .i64 0), (.slice none 0 0), (.slice none 0 0)], none⟩, ⟨some 5, .mv (.const (.int .i64 0)),
    none⟩]) (.seq (.region [⟨some 9, .load true 3 (.tmp 2), none⟩, ⟨some 10, .mv (.tmp 1), none⟩, ⟨some 11, .call (.func 47) [(.tmp 9), (.tmp 10)], none⟩, ⟨some 8, .mv (.tmp 11),
    none⟩, ⟨some 12, .ext (.tmp 8) 0, none⟩, ⟨some 13, .ext (.tmp 8) 1, none⟩, ⟨some 6, .mv (.tmp 12), none⟩, ⟨some 7, .mv (.tmp 13), none⟩]) (.seq (.region [⟨some 14, .load true 3
    (.tmp 2), none⟩, ⟨some 15, .mv (.tmp 1), none⟩, ⟨some 16, .build [(.int .i64 0), (.int .i64 0), (.slice none 0 0), (.slice none 0 0)] [(0, 3, (.tmp 14)), (3, 1, (.tmp 15))],
    none⟩, ⟨some 17, .mv (.tmp 7), none⟩, ⟨none, .store 4 (.tmp 4) (.tmp 16), none⟩, ⟨some 5, .mv (.tmp 17), none⟩]) .ret)))
theorem low127 : lowF Try.prog [] Try.f127 = some (18, lc127, [.cell 4 true 4, .tmp 5]) := by kernel_rfl
theorem fn127 : FnOk Try.prog 127 18 lc127 [.cell 4 true 4, .tmp 5] := ⟨Try.call127, [], _, Try.func127, low127⟩
/-- slices.ContainsFunc[[][2]int,[2]int] -/
def lc136 : LCode :=
  (.seq (.region [⟨some 4, .mv (.const (.bool false)), none⟩]) (.seq (.region [⟨some 5, .mv (.tmp 0), none⟩, ⟨some 6, .mv (.tmp 1), none⟩, ⟨some 7, .call (.func 153) [(.tmp 5),
    (.tmp 6)], none⟩, ⟨some 8, .bin .geq (.tmp 7) (.const (.int .i64 0)), none⟩, ⟨some 4, .mv (.tmp 8), none⟩]) .ret))
theorem low136 : lowF Try.prog [] Try.f136 = some (9, lc136, [.tmp 4]) := by kernel_rfl
theorem fn136 : FnOk Try.prog 136 9 lc136 [.tmp 4] := ⟨Try.call136, [], _, Try.func136, low136⟩
/-- moonpool/cable.pathErr$1 -/
def lc137 : LCode :=
  (.seq (.region [⟨some 1, .box (.tmp 0), none⟩, ⟨some 2, .mv (.const (.bool false)), none⟩]) (.seq (.region [⟨some 3, .load true 2 (.tmp 1), none⟩, ⟨some 4, .call (.func 138)
    [(.tmp 3)], none⟩, ⟨some 5, .un .not (.tmp 4), none⟩, ⟨some 2, .mv (.tmp 5), none⟩]) .ret))
theorem low137 : lowF Try.prog [] Try.f137 = some (6, lc137, [.tmp 2]) := by kernel_rfl
theorem fn137 : FnOk Try.prog 137 6 lc137 [.tmp 2] := ⟨Try.call137, [], _, Try.func137, low137⟩
/-- (moonpool/cable.place).isPlace -/
def lc138 : LCode :=
  (.seq (.region [⟨some 1, .box (.tmp 0), none⟩, ⟨some 2, .mv (.const (.bool false)), none⟩]) (.seq (.region [⟨some 3, .idxA 1 2 (.tmp 1) (.const (.int .i64 0)), none⟩, ⟨some 4,
    .load false 1 (.tmp 3), none⟩, ⟨some 5, .call (.func 106) [(.tmp 4), (.const (.int .i64 10000))], none⟩, ⟨some 6, .mv (.tmp 5), none⟩, ⟨some 7, .idxA 1 2 (.tmp 1) (.const (.int
    .i64 1)), some (6, true)⟩, ⟨some 8, .load false 1 (.tmp 7), some (6, true)⟩, ⟨some 9, .call (.func 106) [(.tmp 8), (.const (.int .i64 10000))], some (6, true)⟩, ⟨some 10, .pick
    (.tmp 6) (.tmp 9) (.const (.bool false)), none⟩, ⟨some 2, .mv (.tmp 10), none⟩]) .ret))
theorem low138 : lowF Try.prog [] Try.f138 = some (11, lc138, [.tmp 2]) := by kernel_rfl
theorem fn138 : FnOk Try.prog 138 11 lc138 [.tmp 2] := ⟨Try.call138, [], _, Try.func138, low138⟩
def ra139 : LCode :=
  (.seq (.region [⟨some 7, .alloc [(.int .i64 0), (.int .i64 0)], none⟩, ⟨none, .store 2 (.tmp 7) (.tmp 13), none⟩]) (.region [⟨some 8, .alloc [(.int .i64 0), (.int .i64 0)], none⟩,
    ⟨none, .store 2 (.tmp 8) (.tmp 14), none⟩]))
def rb139 : LCode :=
  (.block 1 (.seq (.regionD [⟨some 15, .load true 2 (.tmp 8), none⟩, ⟨some 16, .load true 2 (.tmp 7), none⟩, ⟨some 17, .call (.func 155) [(.tmp 15), (.tmp 16)], none⟩, ⟨some 18,
    .load true 2 (.tmp 3), none⟩, ⟨some 19, .load true 2 (.tmp 7), none⟩, ⟨some 20, .call (.func 155) [(.tmp 18), (.tmp 19)], none⟩, ⟨some 21, .call (.func 156) [(.tmp 17), (.tmp
    20)], none⟩, ⟨some 9, .mv (.tmp 21), none⟩] [0, 0, 3, 0, 0, 31, 63, 127] [0, 1, 2, 3, 4, 5, 6, 7]) (.seq (.region [⟨some 22, .idxA 1 2 (.tmp 3) (.const (.int .i64 0)), none⟩,
    ⟨some 23, .load false 1 (.tmp 22), none⟩, ⟨some 24, .idxA 1 2 (.tmp 7) (.const (.int .i64 0)), none⟩, ⟨some 25, .load false 1 (.tmp 24), none⟩, ⟨some 26, .idxA 1 2 (.tmp 8)
    (.const (.int .i64 0)), none⟩, ⟨some 27, .load false 1 (.tmp 26), none⟩, ⟨some 28, .mm false [(.tmp 25), (.tmp 27)], none⟩, ⟨some 29, .idxA 1 2 (.tmp 7) (.const (.int .i64 0)),
    none⟩, ⟨some 30, .load false 1 (.tmp 29), none⟩, ⟨some 31, .idxA 1 2 (.tmp 8) (.const (.int .i64 0)), none⟩, ⟨some 32, .load false 1 (.tmp 31), none⟩, ⟨some 33, .mm true [(.tmp
    30), (.tmp 32)], none⟩, ⟨some 34, .call (.func 104) [(.tmp 23), (.tmp 28), (.tmp 33)], none⟩, ⟨some 35, .mv (.tmp 34), none⟩, ⟨some 36, .idxA 1 2 (.tmp 3) (.const (.int .i64
    1)), some (35, true)⟩, ⟨some 37, .load false 1 (.tmp 36), some (35, true)⟩, ⟨some 38, .idxA 1 2 (.tmp 7) (.const (.int .i64 1)), some (35, true)⟩, ⟨some 39, .load false 1 (.tmp
    38), some (35, true)⟩, ⟨some 40, .idxA 1 2 (.tmp 8) (.const (.int .i64 1)), some (35, true)⟩, ⟨some 41, .load false 1 (.tmp 40), some (35, true)⟩, ⟨some 42, .mm false [(.tmp
    39), (.tmp 41)], some (35, true)⟩, ⟨some 43, .idxA 1 2 (.tmp 7) (.const (.int .i64 1)), some (35, true)⟩, ⟨some 44, .load false 1 (.tmp 43), some (35, true)⟩, ⟨some 45, .idxA 1
    2 (.tmp 8) (.const (.int .i64 1)), some (35, true)⟩, ⟨some 46, .load false 1 (.tmp 45), some (35, true)⟩, ⟨some 47, .mm true [(.tmp 44), (.tmp 46)], some (35, true)⟩, ⟨some 48,
    .call (.func 104) [(.tmp 37), (.tmp 42), (.tmp 47)], some (35, true)⟩, ⟨some 49, .pick (.tmp 35) (.tmp 48) (.const (.bool false)), none⟩, ⟨some 10, .mv (.tmp 49), none⟩])
    (.block 2 (.seq (.region [⟨some 51, .mv (.tmp 9), none⟩, ⟨some 52, .bin .eql (.tmp 51) (.const (.int .i64 0)), none⟩, ⟨some 53, .mv (.tmp 52), none⟩, ⟨some 54, .mv (.tmp 10),
    some (53, true)⟩, ⟨some 55, .pick (.tmp 53) (.tmp 54) (.const (.bool false)), none⟩, ⟨some 50, .mv (.tmp 55), none⟩]) (.cond (.tmp 50) (.seq (.region [⟨none, .store 1 (.tmp 4)
    (.const (.int .i64 0)), none⟩, ⟨none, .store 1 (.tmp 5) (.const (.bool false)), none⟩]) .ret) (.seq (.region [⟨some 57, .idxA 1 2 (.tmp 7) (.const (.int .i64 1)), none⟩, ⟨some
    58, .load false 1 (.tmp 57), none⟩, ⟨some 59, .idxA 1 2 (.tmp 3) (.const (.int .i64 1)), none⟩, ⟨some 60, .load false 1 (.tmp 59), none⟩, ⟨some 61, .bin .leq (.tmp 58) (.tmp
    60), none⟩, ⟨some 62, .mv (.tmp 61), none⟩, ⟨some 63, .idxA 1 2 (.tmp 3) (.const (.int .i64 1)), some (62, true)⟩, ⟨some 64, .load false 1 (.tmp 63), some (62, true)⟩, ⟨some 65,
    .idxA 1 2 (.tmp 8) (.const (.int .i64 1)), some (62, true)⟩, ⟨some 66, .load false 1 (.tmp 65), some (62, true)⟩, ⟨some 67, .bin .lss (.tmp 64) (.tmp 66), some (62, true)⟩,
    ⟨some 68, .pick (.tmp 62) (.tmp 67) (.const (.bool false)), none⟩, ⟨some 69, .mv (.tmp 68), none⟩, ⟨some 70, .mv (.tmp 9), some (69, true)⟩, ⟨some 71, .bin .gtr (.tmp 70)
    (.const (.int .i64 0)), some (69, true)⟩, ⟨some 72, .pick (.tmp 69) (.tmp 71) (.const (.bool false)), none⟩, ⟨some 56, .mv (.tmp 72), none⟩]) (.cond (.tmp 56) (.region [⟨some
    73, .load false 1 (.tmp 6), none⟩, ⟨some 74, .bin .add (.tmp 73) (.const (.int .i64 1)), none⟩, ⟨none, .store 1 (.tmp 6) (.tmp 74), none⟩]) (.seq (.region [⟨some 76, .idxA 1 2
    (.tmp 8) (.const (.int .i64 1)), none⟩, ⟨some 77, .load false 1 (.tmp 76), none⟩, ⟨some 78, .idxA 1 2 (.tmp 3) (.const (.int .i64 1)), none⟩, ⟨some 79, .load false 1 (.tmp 78),
    none⟩, ⟨some 80, .bin .leq (.tmp 77) (.tmp 79), none⟩, ⟨some 81, .mv (.tmp 80), none⟩, ⟨some 82, .idxA 1 2 (.tmp 3) (.const (.int .i64 1)), some (81, true)⟩, ⟨some 83, .load
    false 1 (.tmp 82), some (81, true)⟩, ⟨some 84, .idxA 1 2 (.tmp 7) (.const (.int .i64 1)), some (81, true)⟩, ⟨some 85, .load false 1 (.tmp 84), some (81, true)⟩, ⟨some 86, .bin
    .lss (.tmp 83) (.tmp 85), some (81, true)⟩, ⟨some 87, .pick (.tmp 81) (.tmp 86) (.const (.bool false)), none⟩, ⟨some 88, .mv (.tmp 87), none⟩, ⟨some 89, .mv (.tmp 9), some (88,
    true)⟩, ⟨some 90, .bin .lss (.tmp 89) (.const (.int .i64 0)), some (88, true)⟩, ⟨some 91, .pick (.tmp 88) (.tmp 90) (.const (.bool false)), none⟩, ⟨some 75, .mv (.tmp 91),
    none⟩]) (.cond (.tmp 75) (.region [⟨some 92, .load false 1 (.tmp 6), none⟩, ⟨some 93, .bin .sub (.tmp 92) (.const (.int .i64 1)), none⟩, ⟨none, .store 1 (.tmp 6) (.tmp 93),
    none⟩]) .skip))))))))))
/-- moonpool/cable.winding -/
def lc139 : LCode :=
  (.seq (.region [⟨some 3, .box (.tmp 1), none⟩, ⟨some 4, .alloc [(.int .i64 0)], none⟩, ⟨some 5, .alloc [(.bool false)], none⟩]) (.seq (.region [⟨some 6, .alloc [(.int .i64 0)],
    none⟩, ⟨none, .store 1 (.tmp 6) (.const (.int .i64 0)), none⟩]) (.seq (.seq (.region [⟨some 11, .mv (.tmp 0), none⟩, ⟨some 12, .call (.func 154) [(.tmp 11)], none⟩]) (.block 0
    (.rangeFunc (.tmp 12) [13, 14] ra139 rb139))) (.seq (.region [⟨some 94, .load false 1 (.tmp 6), none⟩, ⟨none, .store 1 (.tmp 4) (.tmp 94), none⟩, ⟨none, .store 1 (.tmp 5)
    (.const (.bool true)), none⟩]) .ret))))
theorem low139 : lowF Try.prog [] Try.f139 = some (95, lc139, [.cell 4 false 1, .cell 5 false 1]) := by kernel_rfl
theorem fn139 : FnOk Try.prog 139 95 lc139 [.cell 4 false 1, .cell 5 false 1] := ⟨Try.call139, [], _, Try.func139, low139⟩
/-- moonpool/cable.open$1 -/
def lc140 : LCode :=
  (.seq (.region [⟨some 4, .mv (.const (.int .i64 0)), none⟩]) (.seq (.region [⟨some 5, .mv (.tmp 1), none⟩, ⟨some 6, .call (.func 111) [(.tmp 5)], none⟩, ⟨some 7, .call (.func 91)
    [(.tmp 6), (.const (.int .i64 2))], none⟩, ⟨some 4, .mv (.tmp 7), none⟩]) .ret))
theorem low140 : lowF Try.prog [] Try.f140 = some (8, lc140, [.tmp 4]) := by kernel_rfl
theorem fn140 : FnOk Try.prog 140 8 lc140 [.tmp 4] := ⟨Try.call140, [], _, Try.func140, low140⟩
/-- (moonpool/cable.line).pulls$1 -/
def lc141 : LCode :=
  (.seq (.region [⟨some 6, .fld 0 (.tmp 1), none⟩, ⟨some 7, .fld 0 (.tmp 6), none⟩, ⟨some 8, .fld 0 (.tmp 7), none⟩, ⟨some 9, .load false 1 (.tmp 8), none⟩, ⟨some 10, .fld 0 (.tmp
    1), none⟩, ⟨some 11, .fld 0 (.tmp 10), none⟩, ⟨some 12, .fld 0 (.tmp 11), none⟩, ⟨some 13, .load false 1 (.tmp 12), none⟩, ⟨some 14, .build [(.int .i64 0), (.int .i64 0)] [(0,
    1, (.tmp 9)), (1, 1, (.tmp 13))], none⟩, ⟨some 15, .fld 0 (.tmp 1), none⟩, ⟨some 16, .fld 0 (.tmp 15), none⟩, ⟨some 17, .fld 1 (.tmp 16), none⟩, ⟨some 18, .load false 1 (.tmp
    17), none⟩, ⟨some 19, .build [(.int .i64 0), (.int .i64 0), (.int .i64 0), (.int .i64 0)] [(0, 2, (.tmp 14)), (2, 1, (.tmp 18))], none⟩, ⟨some 3, .alloc [(.int .i64 0), (.int
    .i64 0), (.int .i64 0), (.int .i64 0)], none⟩, ⟨none, .store 4 (.tmp 3) (.tmp 19), none⟩]) (.seq (.region [⟨some 20, .fld 0 (.tmp 1), none⟩, ⟨some 21, .fld 2 (.tmp 20), none⟩,
    ⟨some 22, .load false 1 (.tmp 21), none⟩, ⟨some 23, .len (.tmp 22), none⟩, ⟨some 24, .mv (.const (.int .i64 0)), none⟩]) (.block 0 (.loop (.seq (.region [⟨some 25, .bin .lss
    (.tmp 24) (.tmp 23), none⟩]) (.seq (.cond (.tmp 25) .skip (.exit 0)) (.seq (.block 1 (.seq (.region [⟨some 26, .mv (.tmp 24), none⟩, ⟨some 27, .idx 3 (.tmp 22) (.tmp 24), none⟩,
    ⟨some 28, .load true 3 (.tmp 27), none⟩, ⟨some 5, .alloc [(.int .i64 0), (.int .i64 0), (.int .i64 0)], none⟩, ⟨some 4, .mv (.tmp 26), none⟩, ⟨none, .store 3 (.tmp 5) (.tmp 28),
    none⟩]) (.seq (.regionD [⟨some 29, .fld 0 (.tmp 3), none⟩, ⟨some 30, .fld 0 (.tmp 29), none⟩, ⟨some 31, .load false 1 (.tmp 30), none⟩, ⟨some 32, .fld 2 (.tmp 5), none⟩, ⟨some
    33, .load false 1 (.tmp 32), none⟩, ⟨some 34, .fld 3 (.tmp 1), none⟩, ⟨some 35, .load false 1 (.tmp 34), none⟩, ⟨some 36, .mv (.tmp 4), none⟩, ⟨some 37, .idx 2 (.tmp 35) (.tmp
    36), none⟩, ⟨some 38, .fld 0 (.tmp 37), none⟩, ⟨some 39, .load false 1 (.tmp 38), none⟩, ⟨some 40, .bin .mul (.tmp 33) (.tmp 39), none⟩, ⟨some 41, .bin .add (.tmp 31) (.tmp 40),
    none⟩, ⟨some 42, .fld 0 (.tmp 3), none⟩, ⟨some 43, .fld 0 (.tmp 42), none⟩, ⟨none, .store 1 (.tmp 43) (.tmp 41), none⟩] [0, 1, 3, 0, 8, 0, 32, 0, 224, 480, 992, 2040, 4095,
    8191, 16383, 32767] [0, 1, 2, 3, 4, 5, 6, 7, 8, 9, 10, 11, 12, 13, 14, 15]) (.seq (.regionD [⟨some 44, .fld 0 (.tmp 3), none⟩, ⟨some 45, .fld 1 (.tmp 44), none⟩, ⟨some 46, .load
    false 1 (.tmp 45), none⟩, ⟨some 47, .fld 2 (.tmp 5), none⟩, ⟨some 48, .load false 1 (.tmp 47), none⟩, ⟨some 49, .fld 3 (.tmp 1), none⟩, ⟨some 50, .load false 1 (.tmp 49), none⟩,
    ⟨some 51, .mv (.tmp 4), none⟩, ⟨some 52, .idx 2 (.tmp 50) (.tmp 51), none⟩, ⟨some 53, .fld 1 (.tmp 52), none⟩, ⟨some 54, .load false 1 (.tmp 53), none⟩, ⟨some 55, .bin .mul
    (.tmp 48) (.tmp 54), none⟩, ⟨some 56, .bin .add (.tmp 46) (.tmp 55), none⟩, ⟨some 57, .fld 0 (.tmp 3), none⟩, ⟨some 58, .fld 1 (.tmp 57), none⟩, ⟨none, .store 1 (.tmp 58) (.tmp
    56), none⟩] [0, 1, 3, 0, 8, 0, 32, 0, 224, 480, 992, 2040, 4095, 8191, 16383, 32767] [0, 1, 2, 3, 4, 5, 6, 7, 8, 9, 10, 11, 12, 13, 14, 15]) (.seq (.regionD [⟨some 59, .fld 2
    (.tmp 3), none⟩, ⟨some 60, .load false 1 (.tmp 59), none⟩, ⟨some 61, .fld 1 (.tmp 5), none⟩, ⟨some 62, .load false 1 (.tmp 61), none⟩, ⟨some 63, .bin .add (.tmp 60) (.tmp 62),
    none⟩, ⟨some 64, .fld 0 (.tmp 5), none⟩, ⟨some 65, .load false 1 (.tmp 64), none⟩, ⟨some 66, .fld 2 (.tmp 3), none⟩, ⟨none, .store 1 (.tmp 66) (.tmp 63), none⟩, ⟨some 67, .fld 3
    (.tmp 3), none⟩, ⟨none, .store 1 (.tmp 67) (.tmp 65), none⟩] [0, 1, 0, 4, 15, 0, 32, 31, 159, 511, 1023] [0, 1, 2, 3, 4, 5, 6, 7, 8, 9, 10]) (.seq (.region [⟨some 68, .mv (.tmp
    0), none⟩, ⟨some 69, .mv (.tmp 4), none⟩, ⟨some 70, .load true 4 (.tmp 3), none⟩, ⟨some 71, .call (.tmp 68) [(.tmp 69), (.tmp 70)], none⟩, ⟨some 72, .un .not (.tmp 71), none⟩])
    (.cond (.tmp 72) .ret .skip))))))) (.region [⟨some 73, .bin .add (.tmp 24) (.const (.int .i64 1)), none⟩, ⟨some 24, .mv (.tmp 73), none⟩]))))))))
theorem low141 : lowF Try.prog [] Try.f141 = some (74, lc141, []) := by kernel_rfl
theorem fn141 : FnOk Try.prog 141 74 lc141 [] := ⟨Try.call141, [], _, Try.func141, low141⟩
def ra142 : LCode :=
  (.region [⟨some 4, .alloc [(.int .i64 0), (.int .i64 0), (.int .i64 0), (.int .i64 0)], none⟩, ⟨none, .store 4 (.tmp 4) (.tmp 8), none⟩])
def rb142 : LCode :=
  (.block 1 (.seq (.region [⟨some 9, .fld 2 (.tmp 4), none⟩, ⟨some 10, .load false 1 (.tmp 9), none⟩, ⟨some 11, .bin .leq (.tmp 10) (.const (.int .i64 0)), none⟩]) (.cond (.tmp 11)
    (.seq (.region [⟨none, .store 1 (.tmp 2) (.const (.int .i64 21)), none⟩]) .ret) .skip)))
/-- (moonpool/cable.line).slackErr -/
def lc142 : LCode :=
  (.seq (.region [⟨some 1, .box (.tmp 0), none⟩, ⟨some 2, .alloc [(.int .i64 0)], none⟩]) (.seq (.seq (.region [⟨some 5, .load true 4 (.tmp 1), none⟩, ⟨some 6, .call (.func 113)
    [(.tmp 5)], none⟩]) (.block 0 (.rangeFunc (.tmp 6) [7, 8] ra142 rb142))) (.seq (.region [⟨none, .store 1 (.tmp 2) (.const (.int .i64 0)), none⟩]) .ret)))
theorem low142 : lowF Try.prog [] Try.f142 = some (12, lc142, [.cell 2 false 1]) := by kernel_rfl
theorem fn142 : FnOk Try.prog 142 12 lc142 [.cell 2 false 1] := ⟨Try.call142, [], _, Try.func142, low142⟩
/-- moonpool/cable.divisor -/
def lc143 : LCode :=
  (.seq (.region [⟨some 4, .mv (.const (.int .i64 0)), none⟩]) (.seq (.block 0 (.loop (.seq (.seq (.region [⟨some 5, .mv (.tmp 1), none⟩, ⟨some 6, .bin .neq (.tmp 5) (.const (.int
    .i64 0)), none⟩]) (.cond (.tmp 6) .skip (.exit 0))) (.block 1 (.regionD [⟨some 7, .mv (.tmp 1), none⟩, ⟨some 8, .mv (.tmp 0), none⟩, ⟨some 9, .mv (.tmp 1), none⟩, ⟨some 10, .bin
    .rem (.tmp 8) (.tmp 9), none⟩, ⟨some 0, .mv (.tmp 7), none⟩, ⟨some 1, .mv (.tmp 10), none⟩] [0, 0, 0, 6, 3, 31] [0, 1, 2, 3, 4, 5]))))) (.seq (.region [⟨some 11, .mv (.tmp 0),
    none⟩, ⟨some 12, .mv (.tmp 0), none⟩, ⟨some 13, .un .neg (.tmp 12), none⟩, ⟨some 14, .mm true [(.tmp 11), (.tmp 13)], none⟩, ⟨some 4, .mv (.tmp 14), none⟩]) .ret)))
theorem low143 : lowF Try.prog [] Try.f143 = some (15, lc143, [.tmp 4]) := by kernel_rfl
theorem fn143 : FnOk Try.prog 143 15 lc143 [.tmp 4] := ⟨Try.call143, [], _, Try.func143, low143⟩
/-- moonpool/cable.floor -/
def lc144 : LCode :=
  (.seq (.region [⟨some 4, .mv (.const (.int .i64 0)), none⟩]) (.seq (.region [⟨some 6, .mv (.tmp 0), none⟩, ⟨some 7, .mv (.tmp 1), none⟩, ⟨some 8, .bin .quo (.tmp 6) (.tmp 7),
    none⟩, ⟨some 5, .mv (.tmp 8), none⟩]) (.seq (.seq (.region [⟨some 9, .mv (.tmp 0), none⟩, ⟨some 10, .mv (.tmp 1), none⟩, ⟨some 11, .bin .rem (.tmp 9) (.tmp 10), none⟩, ⟨some 12,
    .bin .lss (.tmp 11) (.const (.int .i64 0)), none⟩]) (.cond (.tmp 12) (.region [⟨some 13, .mv (.tmp 5), none⟩, ⟨some 14, .bin .sub (.tmp 13) (.const (.int .i64 1)), none⟩, ⟨some
    5, .mv (.tmp 14), none⟩]) .skip)) (.seq (.region [⟨some 15, .mv (.tmp 5), none⟩, ⟨some 4, .mv (.tmp 15), none⟩]) .ret))))
theorem low144 : lowF Try.prog [] Try.f144 = some (16, lc144, [.tmp 4]) := by kernel_rfl
theorem fn144 : FnOk Try.prog 144 16 lc144 [.tmp 4] := ⟨Try.call144, [], _, Try.func144, low144⟩
/-- moonpool/cable.ceil -/
def lc145 : LCode :=
  (.seq (.region [⟨some 4, .mv (.const (.int .i64 0)), none⟩]) (.seq (.region [⟨some 5, .mv (.tmp 0), none⟩, ⟨some 6, .un .neg (.tmp 5), none⟩, ⟨some 7, .mv (.tmp 1), none⟩, ⟨some
    8, .call (.func 144) [(.tmp 6), (.tmp 7)], none⟩, ⟨some 9, .un .neg (.tmp 8), none⟩, ⟨some 4, .mv (.tmp 9), none⟩]) .ret))
theorem low145 : lowF Try.prog [] Try.f145 = some (10, lc145, [.tmp 4]) := by kernel_rfl
theorem fn145 : FnOk Try.prog 145 10 lc145 [.tmp 4] := ⟨Try.call145, [], _, Try.func145, low145⟩
/-- moonpool/cable.root -/
def lc146 : LCode :=
  (.seq (.region [⟨some 2, .mv (.const (.int .i64 0)), none⟩]) (.seq (.region [⟨some 3, .mv (.const (.int .i64 0)), none⟩]) (.seq (.seq (.region [⟨some 4, .mv (.const (.int .i64
    2147483648)), none⟩]) (.block 0 (.loop (.seq (.seq (.region [⟨some 5, .mv (.tmp 4), none⟩, ⟨some 6, .bin .gtr (.tmp 5) (.const (.int .i64 0)), none⟩]) (.cond (.tmp 6) .skip
    (.exit 0))) (.seq (.block 1 (.seq (.region [⟨some 9, .mv (.tmp 3), none⟩, ⟨some 10, .mv (.tmp 4), none⟩, ⟨some 11, .bin .or (.tmp 9) (.tmp 10), none⟩, ⟨some 12, .mv (.tmp 3),
    none⟩, ⟨some 13, .mv (.tmp 4), none⟩, ⟨some 14, .bin .or (.tmp 12) (.tmp 13), none⟩, ⟨some 15, .bin .mul (.tmp 11) (.tmp 14), none⟩, ⟨some 16, .mv (.tmp 0), none⟩, ⟨some 17,
    .bin .leq (.tmp 15) (.tmp 16), none⟩]) (.cond (.tmp 17) (.region [⟨some 18, .mv (.tmp 3), none⟩, ⟨some 19, .mv (.tmp 4), none⟩, ⟨some 20, .bin .or (.tmp 18) (.tmp 19), none⟩,
    ⟨some 3, .mv (.tmp 20), none⟩]) .skip))) (.region [⟨some 7, .mv (.tmp 4), none⟩, ⟨some 8, .bin .shr (.tmp 7) (.const (.int .u64 1)), none⟩, ⟨some 4, .mv (.tmp 8), none⟩]))))))
    (.seq (.region [⟨some 21, .mv (.tmp 3), none⟩, ⟨some 2, .mv (.tmp 21), none⟩]) .ret))))
theorem low146 : lowF Try.prog [] Try.f146 = some (22, lc146, [.tmp 2]) := by kernel_rfl
theorem fn146 : FnOk Try.prog 146 22 lc146 [.tmp 2] := ⟨Try.call146, [], _, Try.func146, low146⟩
/-- math/bits.Mul64 -/
def lc147 : LCode :=
  (.seq (.region [⟨some 4, .mv (.const (.int .u64 0)), none⟩, ⟨some 5, .mv (.const (.int .u64 0)), none⟩]) (.seq (.region [⟨some 14, .mv (.tmp 0), none⟩, ⟨some 15, .bin .and (.tmp
    14) (.const (.int .u64 4294967295)), none⟩, ⟨some 6, .mv (.tmp 15), none⟩]) (.seq (.region [⟨some 16, .mv (.tmp 0), none⟩, ⟨some 17, .bin .shr (.tmp 16) (.const (.int .u64 32)),
    none⟩, ⟨some 7, .mv (.tmp 17), none⟩]) (.seq (.region [⟨some 18, .mv (.tmp 1), none⟩, ⟨some 19, .bin .and (.tmp 18) (.const (.int .u64 4294967295)), none⟩, ⟨some 8, .mv (.tmp
    19), none⟩]) (.seq (.region [⟨some 20, .mv (.tmp 1), none⟩, ⟨some 21, .bin .shr (.tmp 20) (.const (.int .u64 32)), none⟩, ⟨some 9, .mv (.tmp 21), none⟩]) (.seq (.region [⟨some
    22, .mv (.tmp 6), none⟩, ⟨some 23, .mv (.tmp 8), none⟩, ⟨some 24, .bin .mul (.tmp 22) (.tmp 23), none⟩, ⟨some 10, .mv (.tmp 24), none⟩]) (.seq (.region [⟨some 25, .mv (.tmp 7),
    none⟩, ⟨some 26, .mv (.tmp 8), none⟩, ⟨some 27, .bin .mul (.tmp 25) (.tmp 26), none⟩, ⟨some 28, .mv (.tmp 10), none⟩, ⟨some 29, .bin .shr (.tmp 28) (.const (.int .u64 32)),
    none⟩, ⟨some 30, .bin .add (.tmp 27) (.tmp 29), none⟩, ⟨some 11, .mv (.tmp 30), none⟩]) (.seq (.region [⟨some 31, .mv (.tmp 11), none⟩, ⟨some 32, .bin .and (.tmp 31) (.const
    (.int .u64 4294967295)), none⟩, ⟨some 12, .mv (.tmp 32), none⟩]) (.seq (.region [⟨some 33, .mv (.tmp 11), none⟩, ⟨some 34, .bin .shr (.tmp 33) (.const (.int .u64 32)), none⟩,
    ⟨some 13, .mv (.tmp 34), none⟩]) (.seq (.region [⟨some 35, .mv (.tmp 12), none⟩, ⟨some 36, .mv (.tmp 6), none⟩, ⟨some 37, .mv (.tmp 9), none⟩, ⟨some 38, .bin .mul (.tmp 36)
    (.tmp 37), none⟩, ⟨some 39, .bin .add (.tmp 35) (.tmp 38), none⟩, ⟨some 12, .mv (.tmp 39), none⟩]) (.seq (.region [⟨some 40, .mv (.tmp 7), none⟩, ⟨some 41, .mv (.tmp 9), none⟩,
    ⟨some 42, .bin .mul (.tmp 40) (.tmp 41), none⟩, ⟨some 43, .mv (.tmp 13), none⟩, ⟨some 44, .bin .add (.tmp 42) (.tmp 43), none⟩, ⟨some 45, .mv (.tmp 12), none⟩, ⟨some 46, .bin
    .shr (.tmp 45) (.const (.int .u64 32)), none⟩, ⟨some 47, .bin .add (.tmp 44) (.tmp 46), none⟩, ⟨some 4, .mv (.tmp 47), none⟩]) (.seq (.region [⟨some 48, .mv (.tmp 0), none⟩,
    ⟨some 49, .mv (.tmp 1), none⟩, ⟨some 50, .bin .mul (.tmp 48) (.tmp 49), none⟩, ⟨some 5, .mv (.tmp 50), none⟩]) .ret))))))))))))
theorem low147 : lowF Try.prog [] Try.f147 = some (51, lc147, [.tmp 4, .tmp 5]) := by kernel_rfl
theorem fn147 : FnOk Try.prog 147 51 lc147 [.tmp 4, .tmp 5] := ⟨Try.call147, [], _, Try.func147, low147⟩
/-- slices.IndexFunc[[][2]int,[2]int] -/
def lc153 : LCode :=
  (.seq (.region [⟨some 4, .mv (.const (.int .i64 0)), none⟩]) (.seq (.seq (.region [⟨some 6, .mv (.tmp 0), none⟩, ⟨some 7, .len (.tmp 6), none⟩, ⟨some 8, .mv (.const (.int .i64
    0)), none⟩]) (.block 0 (.loop (.seq (.region [⟨some 9, .bin .lss (.tmp 8) (.tmp 7), none⟩]) (.seq (.cond (.tmp 9) .skip (.exit 0)) (.seq (.block 1 (.seq (.region [⟨some 10, .mv
    (.tmp 8), none⟩, ⟨some 5, .mv (.tmp 10), none⟩]) (.seq (.region [⟨some 11, .mv (.tmp 1), none⟩, ⟨some 12, .mv (.tmp 0), none⟩, ⟨some 13, .mv (.tmp 5), none⟩, ⟨some 14, .idx 2
    (.tmp 12) (.tmp 13), none⟩, ⟨some 15, .load true 2 (.tmp 14), none⟩, ⟨some 16, .call (.tmp 11) [(.tmp 15)], none⟩]) (.cond (.tmp 16) (.seq (.region [⟨some 17, .mv (.tmp 5),
    none⟩, ⟨some 4, .mv (.tmp 17), none⟩]) .ret) .skip)))) (.region [⟨some 18, .bin .add (.tmp 8) (.const (.int .i64 1)), none⟩, ⟨some 8, .mv (.tmp 18), none⟩]))))))) (.seq (.region
    [⟨some 4, .mv (.const (.int .i64 (-1))), none⟩]) .ret)))
theorem low153 : lowF Try.prog [] Try.f153 = some (19, lc153, [.tmp 4]) := by kernel_rfl
theorem fn153 : FnOk Try.prog 153 19 lc153 [.tmp 4] := ⟨Try.call153, [], _, Try.func153, low153⟩
/-- moonpool/cable.ways -/
def lc154 : LCode :=
  (.seq (.region [⟨some 1, .box (.tmp 0), none⟩, ⟨some 2, .mv (.const .nilFunc), none⟩]) (.seq (.region [⟨some 3, .mkfn 157 [(.tmp 1)], none⟩, ⟨some 2, .mv (.tmp 3), none⟩]) .ret))
theorem low154 : lowF Try.prog [] Try.f154 = some (4, lc154, [.tmp 2]) := by kernel_rfl
theorem fn154 : FnOk Try.prog 154 4 lc154 [.tmp 2] := ⟨Try.call154, [], _, Try.func154, low154⟩
/-- (moonpool/cable.place).minus -/
def lc155 : LCode :=
  (.seq (.region [⟨some 2, .box (.tmp 0), none⟩, ⟨some 3, .box (.tmp 1), none⟩, ⟨some 4, .alloc [(.int .i64 0), (.int .i64 0)], none⟩]) (.seq (.region [⟨some 5, .idxA 1 2 (.tmp 2)
    (.const (.int .i64 0)), none⟩, ⟨some 6, .load false 1 (.tmp 5), none⟩, ⟨some 7, .idxA 1 2 (.tmp 3) (.const (.int .i64 0)), none⟩, ⟨some 8, .load false 1 (.tmp 7), none⟩, ⟨some
    9, .bin .sub (.tmp 6) (.tmp 8), none⟩, ⟨some 10, .idxA 1 2 (.tmp 2) (.const (.int .i64 1)), none⟩, ⟨some 11, .load false 1 (.tmp 10), none⟩, ⟨some 12, .idxA 1 2 (.tmp 3) (.const
    (.int .i64 1)), none⟩, ⟨some 13, .load false 1 (.tmp 12), none⟩, ⟨some 14, .bin .sub (.tmp 11) (.tmp 13), none⟩, ⟨some 15, .build [(.int .i64 0), (.int .i64 0)] [(0, 1, (.tmp
    9)), (1, 1, (.tmp 14))], none⟩, ⟨none, .store 2 (.tmp 4) (.tmp 15), none⟩]) .ret))
theorem low155 : lowF Try.prog [] Try.f155 = some (16, lc155, [.cell 4 true 2]) := by kernel_rfl
theorem fn155 : FnOk Try.prog 155 16 lc155 [.cell 4 true 2] := ⟨Try.call155, [], _, Try.func155, low155⟩
/-- (moonpool/cable.place).cross -/
def lc156 : LCode :=
  (.seq (.region [⟨some 2, .box (.tmp 0), none⟩, ⟨some 3, .box (.tmp 1), none⟩, ⟨some 4, .mv (.const (.int .i64 0)), none⟩]) (.seq (.region [⟨some 5, .idxA 1 2 (.tmp 2) (.const
    (.int .i64 0)), none⟩, ⟨some 6, .load false 1 (.tmp 5), none⟩, ⟨some 7, .idxA 1 2 (.tmp 3) (.const (.int .i64 1)), none⟩, ⟨some 8, .load false 1 (.tmp 7), none⟩, ⟨some 9, .bin
    .mul (.tmp 6) (.tmp 8), none⟩, ⟨some 10, .idxA 1 2 (.tmp 2) (.const (.int .i64 1)), none⟩, ⟨some 11, .load false 1 (.tmp 10), none⟩, ⟨some 12, .idxA 1 2 (.tmp 3) (.const (.int
    .i64 0)), none⟩, ⟨some 13, .load false 1 (.tmp 12), none⟩, ⟨some 14, .bin .mul (.tmp 11) (.tmp 13), none⟩, ⟨some 15, .bin .sub (.tmp 9) (.tmp 14), none⟩, ⟨some 4, .mv (.tmp 15),
    none⟩]) .ret))
theorem low156 : lowF Try.prog [] Try.f156 = some (16, lc156, [.tmp 4]) := by kernel_rfl
theorem fn156 : FnOk Try.prog 156 16 lc156 [.tmp 4] := ⟨Try.call156, [], _, Try.func156, low156⟩
/-- moonpool/cable.ways$1 -/
def lc157 : LCode :=
  (.seq (.region [⟨some 5, .load false 1 (.tmp 1), none⟩, ⟨some 6, .len (.tmp 5), none⟩, ⟨some 7, .mv (.const (.int .i64 0)), none⟩]) (.block 0 (.loop (.seq (.region [⟨some 8, .bin
    .lss (.tmp 7) (.tmp 6), none⟩]) (.seq (.cond (.tmp 8) .skip (.exit 0)) (.seq (.block 1 (.seq (.region [⟨some 9, .mv (.tmp 7), none⟩, ⟨some 10, .idx 2 (.tmp 5) (.tmp 7), none⟩,
    ⟨some 11, .load true 2 (.tmp 10), none⟩, ⟨some 4, .alloc [(.int .i64 0), (.int .i64 0)], none⟩, ⟨some 3, .mv (.tmp 9), none⟩, ⟨none, .store 2 (.tmp 4) (.tmp 11), none⟩]) (.seq
    (.regionD [⟨some 12, .mv (.tmp 0), none⟩, ⟨some 13, .load true 2 (.tmp 4), none⟩, ⟨some 14, .load false 1 (.tmp 1), none⟩, ⟨some 15, .mv (.tmp 3), none⟩, ⟨some 16, .bin .add
    (.tmp 15) (.const (.int .i64 1)), none⟩, ⟨some 17, .load false 1 (.tmp 1), none⟩, ⟨some 18, .len (.tmp 17), none⟩, ⟨some 19, .bin .rem (.tmp 16) (.tmp 18), none⟩, ⟨some 20, .idx
    2 (.tmp 14) (.tmp 19), none⟩, ⟨some 21, .load true 2 (.tmp 20), none⟩, ⟨some 22, .call (.tmp 12) [(.tmp 13), (.tmp 21)], none⟩, ⟨some 23, .un .not (.tmp 22), none⟩] [0, 0, 0, 0,
    8, 0, 32, 120, 252, 508, 1023, 2047] [0, 1, 2, 3, 4, 5, 6, 7, 8, 9, 10, 11]) (.cond (.tmp 23) .ret .skip)))) (.region [⟨some 24, .bin .add (.tmp 7) (.const (.int .i64 1)),
    none⟩, ⟨some 7, .mv (.tmp 24), none⟩])))))))
theorem low157 : lowF Try.prog [] Try.f157 = some (25, lc157, []) := by kernel_rfl
theorem fn157 : FnOk Try.prog 157 25 lc157 [] := ⟨Try.call157, [], _, Try.func157, low157⟩
end Go.Pw

set_option linter.unusedSimpArgs false
namespace Go.Pw
open Go Go.Proofs
instance : Mix Try.prog := ⟨⟨by kernel_rfl⟩⟩
theorem mbd {a b A B : Int} (ha : -A ≤ a ∧ a ≤ A) (hb : -B ≤ b ∧ b ≤ B) : -(A * B) ≤ a * b ∧ a * b ≤ A * B := by
  have hA : 0 ≤ A := by omega
  have hB : 0 ≤ B := by omega
  have h : (a * b).natAbs ≤ (A * B).natAbs := by
    rw [Int.natAbs_mul, Int.natAbs_mul]
    exact Nat.mul_le_mul (by omega) (by omega)
  have : 0 ≤ A * B := Int.mul_nonneg hA hB
  omega
theorem sq_nonneg (a : Int) : 0 ≤ a * a := by
  rcases Int.le_total 0 a with h | h
  · exact Int.mul_nonneg h h
  · have := Int.mul_nonneg (show 0 ≤ -a by omega) (show 0 ≤ -a by omega)
    rwa [Int.neg_mul_neg] at this
theorem C16 {n lo hi : Int} : PFD Try.prog 16 [vi .i64 n, vi .i64 lo, vi .i64 hi] (vbl (decide (lo ≤ n ∧ n ≤ hi))) := by
  refine PFD.of (vs := [_]) fn16 rfl (by (simp only [cloL, clo, cloC, cloCs, and_self])) ?_
  (repeat' first | (refine Owe.mk ?_ ?_; (· (first | trivial | omega | ((try simp only [R64, true_and, and_true, Int.toNat_natCast, List.length_cons, List.length_nil]); omega)))) | (refine Fork.same ?_; first | refine Fork.dec (fun h => ?_) (fun h => ?_) | refine Fork.ndec (fun h => ?_) (fun h => ?_) | refine Fork.mk (fun h => ?_) (fun h => ?_)) | refine MvQ.stay ?_ | refine Owe.mk ?_ ?_)
  · (refine RetQ.plain (Nat.le_refl _) (by first | exact .inr rfl | exact .inl rfl) rfl (by (simp only [cloL, clo, cloC, cloCs, and_self])) ?_; (repeat' first | exact True.intro | exact VEq.refl _ | exact EEq.same _ | exact CEq.refl _ | exact VEq.int rfl | apply VEq.tru | apply VEq.fls | apply VEq.bool | apply VEq.int | exact VEq.nill rfl | exact VEq.zl rfl | exact VEq.nil | exact VEq.li_1 | exact VEq.li_2 | exact VEq.li_3 | exact VEq.li_4 | exact VEq.lp_1 | exact VEq.lp_2 | exact VEq.lp_3 | exact VEq.lp_4 | exact VEq.lt_1 | exact VEq.lt_2 | exact VEq.lt_3 | apply VEq.ms | apply VEq.sll | apply VEq.aggs | apply EEq.boxs | apply EEq.app1 | apply EEq.app2 | apply EEq.app3 | apply CEq.ms | apply CEq.int | apply CEq.sll | exact CEq.nill rfl | apply And.intro | exact rfl)); simp [*]
  · (refine RetQ.plain (Nat.le_refl _) (by first | exact .inr rfl | exact .inl rfl) rfl (by (simp only [cloL, clo, cloC, cloCs, and_self])) ?_; (repeat' first | exact True.intro | exact VEq.refl _ | exact EEq.same _ | exact CEq.refl _ | exact VEq.int rfl | apply VEq.tru | apply VEq.fls | apply VEq.bool | apply VEq.int | exact VEq.nill rfl | exact VEq.zl rfl | exact VEq.nil | exact VEq.li_1 | exact VEq.li_2 | exact VEq.li_3 | exact VEq.li_4 | exact VEq.lp_1 | exact VEq.lp_2 | exact VEq.lp_3 | exact VEq.lp_4 | exact VEq.lt_1 | exact VEq.lt_2 | exact VEq.lt_3 | apply VEq.ms | apply VEq.sll | apply VEq.aggs | apply EEq.boxs | apply EEq.app1 | apply EEq.app2 | apply EEq.app3 | apply CEq.ms | apply CEq.int | apply CEq.sll | exact CEq.nill rfl | apply And.intro | exact rfl)); simp only [decide_eq_false_iff_not]; omega
theorem C104 {n lo hi : Int} : PFD Try.prog 104 [vi .i64 n, vi .i64 lo, vi .i64 hi] (vbl (decide (lo ≤ n ∧ n ≤ hi))) := by
  refine PFD.of (vs := [_]) fn104 rfl (by (simp only [cloL, clo, cloC, cloCs, and_self])) ?_
  (repeat' first | (refine Owe.mk ?_ ?_; (· (first | trivial | omega | ((try simp only [R64, true_and, and_true, Int.toNat_natCast, List.length_cons, List.length_nil]); omega)))) | (refine Fork.same ?_; first | refine Fork.dec (fun h => ?_) (fun h => ?_) | refine Fork.ndec (fun h => ?_) (fun h => ?_) | refine Fork.mk (fun h => ?_) (fun h => ?_)) | refine MvQ.stay ?_ | refine Owe.mk ?_ ?_)
  · (refine RetQ.plain (Nat.le_refl _) (by first | exact .inr rfl | exact .inl rfl) rfl (by (simp only [cloL, clo, cloC, cloCs, and_self])) ?_; (repeat' first | exact True.intro | exact VEq.refl _ | exact EEq.same _ | exact CEq.refl _ | exact VEq.int rfl | apply VEq.tru | apply VEq.fls | apply VEq.bool | apply VEq.int | exact VEq.nill rfl | exact VEq.zl rfl | exact VEq.nil | exact VEq.li_1 | exact VEq.li_2 | exact VEq.li_3 | exact VEq.li_4 | exact VEq.lp_1 | exact VEq.lp_2 | exact VEq.lp_3 | exact VEq.lp_4 | exact VEq.lt_1 | exact VEq.lt_2 | exact VEq.lt_3 | apply VEq.ms | apply VEq.sll | apply VEq.aggs | apply EEq.boxs | apply EEq.app1 | apply EEq.app2 | apply EEq.app3 | apply CEq.ms | apply CEq.int | apply CEq.sll | exact CEq.nill rfl | apply And.intro | exact rfl)); simp [*]
  · (refine RetQ.plain (Nat.le_refl _) (by first | exact .inr rfl | exact .inl rfl) rfl (by (simp only [cloL, clo, cloC, cloCs, and_self])) ?_; (repeat' first | exact True.intro | exact VEq.refl _ | exact EEq.same _ | exact CEq.refl _ | exact VEq.int rfl | apply VEq.tru | apply VEq.fls | apply VEq.bool | apply VEq.int | exact VEq.nill rfl | exact VEq.zl rfl | exact VEq.nil | exact VEq.li_1 | exact VEq.li_2 | exact VEq.li_3 | exact VEq.li_4 | exact VEq.lp_1 | exact VEq.lp_2 | exact VEq.lp_3 | exact VEq.lp_4 | exact VEq.lt_1 | exact VEq.lt_2 | exact VEq.lt_3 | apply VEq.ms | apply VEq.sll | apply VEq.aggs | apply EEq.boxs | apply EEq.app1 | apply EEq.app2 | apply EEq.app3 | apply CEq.ms | apply CEq.int | apply CEq.sll | exact CEq.nill rfl | apply And.intro | exact rfl)); simp only [decide_eq_false_iff_not]; omega
theorem C106 {n m : Int} : (0 ≤ m ∧ m < 4611686018427387904) → PFD Try.prog 106 [vi .i64 n, vi .i64 m] (vbl (decide (-m ≤ n ∧ n ≤ m))) := fun h => by
  refine PFD.of (vs := [_]) fn106 rfl (by (simp only [cloL, clo, cloC, cloCs, and_self])) ?_
  (repeat' first | (refine Owe.mk ?_ ?_; (· (first | trivial | omega | ((try simp only [R64, true_and, and_true, Int.toNat_natCast, List.length_cons, List.length_nil]); omega)))) | (refine Fork.same ?_; first | refine Fork.dec (fun h => ?_) (fun h => ?_) | refine Fork.ndec (fun h => ?_) (fun h => ?_) | refine Fork.mk (fun h => ?_) (fun h => ?_)) | (refine OpsL.same ?_; first | refine Ops.pc rfl (Fits.eq rfl) C104 rfl ?_ | (refine Ops.pcp rfl (Fits.eq rfl) C104 rfl ?_ ?_; (· (first | trivial | omega | ((try simp only [R64, true_and, and_true, Int.toNat_natCast, List.length_cons, List.length_nil]); omega)))) | refine Ops.pc rfl (Fits.veq (by (repeat' first | exact True.intro | exact VEq.refl _ | exact EEq.same _ | exact CEq.refl _ | exact VEq.int rfl | apply VEq.tru | apply VEq.fls | apply VEq.bool | apply VEq.int | exact VEq.nill rfl | exact VEq.zl rfl | exact VEq.nil | exact VEq.li_1 | exact VEq.li_2 | exact VEq.li_3 | exact VEq.li_4 | exact VEq.lp_1 | exact VEq.lp_2 | exact VEq.lp_3 | exact VEq.lp_4 | exact VEq.lt_1 | exact VEq.lt_2 | exact VEq.lt_3 | apply VEq.ms | apply VEq.sll | apply VEq.aggs | apply EEq.boxs | apply EEq.app1 | apply EEq.app2 | apply EEq.app3 | apply CEq.ms | apply CEq.int | apply CEq.sll | exact CEq.nill rfl | apply And.intro | exact rfl))) C104 rfl ?_ | (refine Ops.pcp rfl (Fits.veq (by (repeat' first | exact True.intro | exact VEq.refl _ | exact EEq.same _ | exact CEq.refl _ | exact VEq.int rfl | apply VEq.tru | apply VEq.fls | apply VEq.bool | apply VEq.int | exact VEq.nill rfl | exact VEq.zl rfl | exact VEq.nil | exact VEq.li_1 | exact VEq.li_2 | exact VEq.li_3 | exact VEq.li_4 | exact VEq.lp_1 | exact VEq.lp_2 | exact VEq.lp_3 | exact VEq.lp_4 | exact VEq.lt_1 | exact VEq.lt_2 | exact VEq.lt_3 | apply VEq.ms | apply VEq.sll | apply VEq.aggs | apply EEq.boxs | apply EEq.app1 | apply EEq.app2 | apply EEq.app3 | apply CEq.ms | apply CEq.int | apply CEq.sll | exact CEq.nill rfl | apply And.intro | exact rfl))) C104 rfl ?_ ?_; (· (first | trivial | omega | ((try simp only [R64, true_and, and_true, Int.toNat_natCast, List.length_cons, List.length_nil]); omega)))) ) | (refine OpsDL.same ?_; first | refine OpsD.pc rfl (Fits.eq rfl) C104 rfl ?_ | (refine OpsD.pcp rfl (Fits.eq rfl) C104 rfl ?_ ?_; (· (first | trivial | omega | ((try simp only [R64, true_and, and_true, Int.toNat_natCast, List.length_cons, List.length_nil]); omega)))) | refine OpsD.pc rfl (Fits.veq (by (repeat' first | exact True.intro | exact VEq.refl _ | exact EEq.same _ | exact CEq.refl _ | exact VEq.int rfl | apply VEq.tru | apply VEq.fls | apply VEq.bool | apply VEq.int | exact VEq.nill rfl | exact VEq.zl rfl | exact VEq.nil | exact VEq.li_1 | exact VEq.li_2 | exact VEq.li_3 | exact VEq.li_4 | exact VEq.lp_1 | exact VEq.lp_2 | exact VEq.lp_3 | exact VEq.lp_4 | exact VEq.lt_1 | exact VEq.lt_2 | exact VEq.lt_3 | apply VEq.ms | apply VEq.sll | apply VEq.aggs | apply EEq.boxs | apply EEq.app1 | apply EEq.app2 | apply EEq.app3 | apply CEq.ms | apply CEq.int | apply CEq.sll | exact CEq.nill rfl | apply And.intro | exact rfl))) C104 rfl ?_ | (refine OpsD.pcp rfl (Fits.veq (by (repeat' first | exact True.intro | exact VEq.refl _ | exact EEq.same _ | exact CEq.refl _ | exact VEq.int rfl | apply VEq.tru | apply VEq.fls | apply VEq.bool | apply VEq.int | exact VEq.nill rfl | exact VEq.zl rfl | exact VEq.nil | exact VEq.li_1 | exact VEq.li_2 | exact VEq.li_3 | exact VEq.li_4 | exact VEq.lp_1 | exact VEq.lp_2 | exact VEq.lp_3 | exact VEq.lp_4 | exact VEq.lt_1 | exact VEq.lt_2 | exact VEq.lt_3 | apply VEq.ms | apply VEq.sll | apply VEq.aggs | apply EEq.boxs | apply EEq.app1 | apply EEq.app2 | apply EEq.app3 | apply CEq.ms | apply CEq.int | apply CEq.sll | exact CEq.nill rfl | apply And.intro | exact rfl))) C104 rfl ?_ ?_; (· (first | trivial | omega | ((try simp only [R64, true_and, and_true, Int.toNat_natCast, List.length_cons, List.length_nil]); omega)))) ) | refine MvQ.stay ?_ | refine Owe.mk ?_ ?_)
  (refine RetQ.plain (Nat.le_refl _) (by first | exact .inr rfl | exact .inl rfl) rfl (by (simp only [cloL, clo, cloC, cloCs, and_self])) ?_; (repeat' first | exact True.intro | exact VEq.refl _ | exact EEq.same _ | exact CEq.refl _ | exact VEq.int rfl | apply VEq.tru | apply VEq.fls | apply VEq.bool | apply VEq.int | exact VEq.nill rfl | exact VEq.zl rfl | exact VEq.nil | exact VEq.li_1 | exact VEq.li_2 | exact VEq.li_3 | exact VEq.li_4 | exact VEq.lp_1 | exact VEq.lp_2 | exact VEq.lp_3 | exact VEq.lp_4 | exact VEq.lt_1 | exact VEq.lt_2 | exact VEq.lt_3 | apply VEq.ms | apply VEq.sll | apply VEq.aggs | apply EEq.boxs | apply EEq.app1 | apply EEq.app2 | apply EEq.app3 | apply CEq.ms | apply CEq.int | apply CEq.sll | exact CEq.nill rfl | apply And.intro | exact rfl))
theorem C111 {n : Int} : PFD Try.prog 111 [vi .i64 n] (vbl (decide (-50 ≤ n ∧ n ≤ 50))) := by
  refine PFD.of (vs := [_]) fn111 rfl (by (simp only [cloL, clo, cloC, cloCs, and_self])) ?_
  (repeat' first | (refine Owe.mk ?_ ?_; (· (first | trivial | omega | ((try simp only [R64, true_and, and_true, Int.toNat_natCast, List.length_cons, List.length_nil]); omega)))) | (refine Fork.same ?_; first | refine Fork.dec (fun h => ?_) (fun h => ?_) | refine Fork.ndec (fun h => ?_) (fun h => ?_) | refine Fork.mk (fun h => ?_) (fun h => ?_)) | (refine OpsL.same ?_; first | refine Ops.pc rfl (Fits.eq rfl) C106 rfl ?_ | (refine Ops.pcp rfl (Fits.eq rfl) C106 rfl ?_ ?_; (· (first | trivial | omega | ((try simp only [R64, true_and, and_true, Int.toNat_natCast, List.length_cons, List.length_nil]); omega)))) | refine Ops.pc rfl (Fits.veq (by (repeat' first | exact True.intro | exact VEq.refl _ | exact EEq.same _ | exact CEq.refl _ | exact VEq.int rfl | apply VEq.tru | apply VEq.fls | apply VEq.bool | apply VEq.int | exact VEq.nill rfl | exact VEq.zl rfl | exact VEq.nil | exact VEq.li_1 | exact VEq.li_2 | exact VEq.li_3 | exact VEq.li_4 | exact VEq.lp_1 | exact VEq.lp_2 | exact VEq.lp_3 | exact VEq.lp_4 | exact VEq.lt_1 | exact VEq.lt_2 | exact VEq.lt_3 | apply VEq.ms | apply VEq.sll | apply VEq.aggs | apply EEq.boxs | apply EEq.app1 | apply EEq.app2 | apply EEq.app3 | apply CEq.ms | apply CEq.int | apply CEq.sll | exact CEq.nill rfl | apply And.intro | exact rfl))) C106 rfl ?_ | (refine Ops.pcp rfl (Fits.veq (by (repeat' first | exact True.intro | exact VEq.refl _ | exact EEq.same _ | exact CEq.refl _ | exact VEq.int rfl | apply VEq.tru | apply VEq.fls | apply VEq.bool | apply VEq.int | exact VEq.nill rfl | exact VEq.zl rfl | exact VEq.nil | exact VEq.li_1 | exact VEq.li_2 | exact VEq.li_3 | exact VEq.li_4 | exact VEq.lp_1 | exact VEq.lp_2 | exact VEq.lp_3 | exact VEq.lp_4 | exact VEq.lt_1 | exact VEq.lt_2 | exact VEq.lt_3 | apply VEq.ms | apply VEq.sll | apply VEq.aggs | apply EEq.boxs | apply EEq.app1 | apply EEq.app2 | apply EEq.app3 | apply CEq.ms | apply CEq.int | apply CEq.sll | exact CEq.nill rfl | apply And.intro | exact rfl))) C106 rfl ?_ ?_; (· (first | trivial | omega | ((try simp only [R64, true_and, and_true, Int.toNat_natCast, List.length_cons, List.length_nil]); omega)))) ) | (refine OpsDL.same ?_; first | refine OpsD.pc rfl (Fits.eq rfl) C106 rfl ?_ | (refine OpsD.pcp rfl (Fits.eq rfl) C106 rfl ?_ ?_; (· (first | trivial | omega | ((try simp only [R64, true_and, and_true, Int.toNat_natCast, List.length_cons, List.length_nil]); omega)))) | refine OpsD.pc rfl (Fits.veq (by (repeat' first | exact True.intro | exact VEq.refl _ | exact EEq.same _ | exact CEq.refl _ | exact VEq.int rfl | apply VEq.tru | apply VEq.fls | apply VEq.bool | apply VEq.int | exact VEq.nill rfl | exact VEq.zl rfl | exact VEq.nil | exact VEq.li_1 | exact VEq.li_2 | exact VEq.li_3 | exact VEq.li_4 | exact VEq.lp_1 | exact VEq.lp_2 | exact VEq.lp_3 | exact VEq.lp_4 | exact VEq.lt_1 | exact VEq.lt_2 | exact VEq.lt_3 | apply VEq.ms | apply VEq.sll | apply VEq.aggs | apply EEq.boxs | apply EEq.app1 | apply EEq.app2 | apply EEq.app3 | apply CEq.ms | apply CEq.int | apply CEq.sll | exact CEq.nill rfl | apply And.intro | exact rfl))) C106 rfl ?_ | (refine OpsD.pcp rfl (Fits.veq (by (repeat' first | exact True.intro | exact VEq.refl _ | exact EEq.same _ | exact CEq.refl _ | exact VEq.int rfl | apply VEq.tru | apply VEq.fls | apply VEq.bool | apply VEq.int | exact VEq.nill rfl | exact VEq.zl rfl | exact VEq.nil | exact VEq.li_1 | exact VEq.li_2 | exact VEq.li_3 | exact VEq.li_4 | exact VEq.lp_1 | exact VEq.lp_2 | exact VEq.lp_3 | exact VEq.lp_4 | exact VEq.lt_1 | exact VEq.lt_2 | exact VEq.lt_3 | apply VEq.ms | apply VEq.sll | apply VEq.aggs | apply EEq.boxs | apply EEq.app1 | apply EEq.app2 | apply EEq.app3 | apply CEq.ms | apply CEq.int | apply CEq.sll | exact CEq.nill rfl | apply And.intro | exact rfl))) C106 rfl ?_ ?_; (· (first | trivial | omega | ((try simp only [R64, true_and, and_true, Int.toNat_natCast, List.length_cons, List.length_nil]); omega)))) ) | refine MvQ.stay ?_ | refine Owe.mk ?_ ?_)
  (refine RetQ.plain (Nat.le_refl _) (by first | exact .inr rfl | exact .inl rfl) rfl (by (simp only [cloL, clo, cloC, cloCs, and_self])) ?_; (repeat' first | exact True.intro | exact VEq.refl _ | exact EEq.same _ | exact CEq.refl _ | exact VEq.int rfl | apply VEq.tru | apply VEq.fls | apply VEq.bool | apply VEq.int | exact VEq.nill rfl | exact VEq.zl rfl | exact VEq.nil | exact VEq.li_1 | exact VEq.li_2 | exact VEq.li_3 | exact VEq.li_4 | exact VEq.lp_1 | exact VEq.lp_2 | exact VEq.lp_3 | exact VEq.lp_4 | exact VEq.lt_1 | exact VEq.lt_2 | exact VEq.lt_3 | apply VEq.ms | apply VEq.sll | apply VEq.aggs | apply EEq.boxs | apply EEq.app1 | apply EEq.app2 | apply EEq.app3 | apply CEq.ms | apply CEq.int | apply CEq.sll | exact CEq.nill rfl | apply And.intro | exact rfl))
theorem C100 {n : Int} : PFD Try.prog 100 [vi .i64 n] (vbl (decide (-50 ≤ n ∧ n ≤ 50))) := by
  refine PFD.of (vs := [_]) fn100 rfl (by (simp only [cloL, clo, cloC, cloCs, and_self])) ?_
  (repeat' first | (refine Owe.mk ?_ ?_; (· (first | trivial | omega | ((try simp only [R64, true_and, and_true, Int.toNat_natCast, List.length_cons, List.length_nil]); omega)))) | (refine Fork.same ?_; first | refine Fork.dec (fun h => ?_) (fun h => ?_) | refine Fork.ndec (fun h => ?_) (fun h => ?_) | refine Fork.mk (fun h => ?_) (fun h => ?_)) | (refine OpsL.same ?_; first | refine Ops.pc rfl (Fits.eq rfl) C16 rfl ?_ | (refine Ops.pcp rfl (Fits.eq rfl) C16 rfl ?_ ?_; (· (first | trivial | omega | ((try simp only [R64, true_and, and_true, Int.toNat_natCast, List.length_cons, List.length_nil]); omega)))) | refine Ops.pc rfl (Fits.veq (by (repeat' first | exact True.intro | exact VEq.refl _ | exact EEq.same _ | exact CEq.refl _ | exact VEq.int rfl | apply VEq.tru | apply VEq.fls | apply VEq.bool | apply VEq.int | exact VEq.nill rfl | exact VEq.zl rfl | exact VEq.nil | exact VEq.li_1 | exact VEq.li_2 | exact VEq.li_3 | exact VEq.li_4 | exact VEq.lp_1 | exact VEq.lp_2 | exact VEq.lp_3 | exact VEq.lp_4 | exact VEq.lt_1 | exact VEq.lt_2 | exact VEq.lt_3 | apply VEq.ms | apply VEq.sll | apply VEq.aggs | apply EEq.boxs | apply EEq.app1 | apply EEq.app2 | apply EEq.app3 | apply CEq.ms | apply CEq.int | apply CEq.sll | exact CEq.nill rfl | apply And.intro | exact rfl))) C16 rfl ?_ | (refine Ops.pcp rfl (Fits.veq (by (repeat' first | exact True.intro | exact VEq.refl _ | exact EEq.same _ | exact CEq.refl _ | exact VEq.int rfl | apply VEq.tru | apply VEq.fls | apply VEq.bool | apply VEq.int | exact VEq.nill rfl | exact VEq.zl rfl | exact VEq.nil | exact VEq.li_1 | exact VEq.li_2 | exact VEq.li_3 | exact VEq.li_4 | exact VEq.lp_1 | exact VEq.lp_2 | exact VEq.lp_3 | exact VEq.lp_4 | exact VEq.lt_1 | exact VEq.lt_2 | exact VEq.lt_3 | apply VEq.ms | apply VEq.sll | apply VEq.aggs | apply EEq.boxs | apply EEq.app1 | apply EEq.app2 | apply EEq.app3 | apply CEq.ms | apply CEq.int | apply CEq.sll | exact CEq.nill rfl | apply And.intro | exact rfl))) C16 rfl ?_ ?_; (· (first | trivial | omega | ((try simp only [R64, true_and, and_true, Int.toNat_natCast, List.length_cons, List.length_nil]); omega)))) ) | (refine OpsDL.same ?_; first | refine OpsD.pc rfl (Fits.eq rfl) C16 rfl ?_ | (refine OpsD.pcp rfl (Fits.eq rfl) C16 rfl ?_ ?_; (· (first | trivial | omega | ((try simp only [R64, true_and, and_true, Int.toNat_natCast, List.length_cons, List.length_nil]); omega)))) | refine OpsD.pc rfl (Fits.veq (by (repeat' first | exact True.intro | exact VEq.refl _ | exact EEq.same _ | exact CEq.refl _ | exact VEq.int rfl | apply VEq.tru | apply VEq.fls | apply VEq.bool | apply VEq.int | exact VEq.nill rfl | exact VEq.zl rfl | exact VEq.nil | exact VEq.li_1 | exact VEq.li_2 | exact VEq.li_3 | exact VEq.li_4 | exact VEq.lp_1 | exact VEq.lp_2 | exact VEq.lp_3 | exact VEq.lp_4 | exact VEq.lt_1 | exact VEq.lt_2 | exact VEq.lt_3 | apply VEq.ms | apply VEq.sll | apply VEq.aggs | apply EEq.boxs | apply EEq.app1 | apply EEq.app2 | apply EEq.app3 | apply CEq.ms | apply CEq.int | apply CEq.sll | exact CEq.nill rfl | apply And.intro | exact rfl))) C16 rfl ?_ | (refine OpsD.pcp rfl (Fits.veq (by (repeat' first | exact True.intro | exact VEq.refl _ | exact EEq.same _ | exact CEq.refl _ | exact VEq.int rfl | apply VEq.tru | apply VEq.fls | apply VEq.bool | apply VEq.int | exact VEq.nill rfl | exact VEq.zl rfl | exact VEq.nil | exact VEq.li_1 | exact VEq.li_2 | exact VEq.li_3 | exact VEq.li_4 | exact VEq.lp_1 | exact VEq.lp_2 | exact VEq.lp_3 | exact VEq.lp_4 | exact VEq.lt_1 | exact VEq.lt_2 | exact VEq.lt_3 | apply VEq.ms | apply VEq.sll | apply VEq.aggs | apply EEq.boxs | apply EEq.app1 | apply EEq.app2 | apply EEq.app3 | apply CEq.ms | apply CEq.int | apply CEq.sll | exact CEq.nill rfl | apply And.intro | exact rfl))) C16 rfl ?_ ?_; (· (first | trivial | omega | ((try simp only [R64, true_and, and_true, Int.toNat_natCast, List.length_cons, List.length_nil]); omega)))) ) | refine MvQ.stay ?_ | refine Owe.mk ?_ ?_)
  (refine RetQ.plain (Nat.le_refl _) (by first | exact .inr rfl | exact .inl rfl) rfl (by (simp only [cloL, clo, cloC, cloCs, and_self])) ?_; (repeat' first | exact True.intro | exact VEq.refl _ | exact EEq.same _ | exact CEq.refl _ | exact VEq.int rfl | apply VEq.tru | apply VEq.fls | apply VEq.bool | apply VEq.int | exact VEq.nill rfl | exact VEq.zl rfl | exact VEq.nil | exact VEq.li_1 | exact VEq.li_2 | exact VEq.li_3 | exact VEq.li_4 | exact VEq.lp_1 | exact VEq.lp_2 | exact VEq.lp_3 | exact VEq.lp_4 | exact VEq.lt_1 | exact VEq.lt_2 | exact VEq.lt_3 | apply VEq.ms | apply VEq.sll | apply VEq.aggs | apply EEq.boxs | apply EEq.app1 | apply EEq.app2 | apply EEq.app3 | apply CEq.ms | apply CEq.int | apply CEq.sll | exact CEq.nill rfl | apply And.intro | exact rfl))
abbrev isPl (p : Int × Int) : Prop := (-10000 ≤ p.1 ∧ p.1 ≤ 10000) ∧ -10000 ≤ p.2 ∧ p.2 ≤ 10000
theorem C138 {p : Int × Int} : PFD Try.prog 138 [.agg [int p.1, int p.2]] (vbl (decide (isPl p))) := by
  refine PFD.of (vs := [_]) fn138 rfl (by (simp only [cloL, clo, cloC, cloCs, and_self])) ?_
  (repeat' first | (refine Owe.mk ?_ ?_; (· (first | trivial | omega | ((try simp only [R64, true_and, and_true, Int.toNat_natCast, List.length_cons, List.length_nil]); omega)))) | (refine Fork.same ?_; first | refine Fork.dec (fun h => ?_) (fun h => ?_) | refine Fork.ndec (fun h => ?_) (fun h => ?_) | refine Fork.mk (fun h => ?_) (fun h => ?_)) | (refine OpsL.same ?_; first | refine Ops.pc rfl (Fits.eq rfl) C106 rfl ?_ | (refine Ops.pcp rfl (Fits.eq rfl) C106 rfl ?_ ?_; (· (first | trivial | omega | ((try simp only [R64, true_and, and_true, Int.toNat_natCast, List.length_cons, List.length_nil]); omega)))) | refine Ops.pc rfl (Fits.veq (by (repeat' first | exact True.intro | exact VEq.refl _ | exact EEq.same _ | exact CEq.refl _ | exact VEq.int rfl | apply VEq.tru | apply VEq.fls | apply VEq.bool | apply VEq.int | exact VEq.nill rfl | exact VEq.zl rfl | exact VEq.nil | exact VEq.li_1 | exact VEq.li_2 | exact VEq.li_3 | exact VEq.li_4 | exact VEq.lp_1 | exact VEq.lp_2 | exact VEq.lp_3 | exact VEq.lp_4 | exact VEq.lt_1 | exact VEq.lt_2 | exact VEq.lt_3 | apply VEq.ms | apply VEq.sll | apply VEq.aggs | apply EEq.boxs | apply EEq.app1 | apply EEq.app2 | apply EEq.app3 | apply CEq.ms | apply CEq.int | apply CEq.sll | exact CEq.nill rfl | apply And.intro | exact rfl))) C106 rfl ?_ | (refine Ops.pcp rfl (Fits.veq (by (repeat' first | exact True.intro | exact VEq.refl _ | exact EEq.same _ | exact CEq.refl _ | exact VEq.int rfl | apply VEq.tru | apply VEq.fls | apply VEq.bool | apply VEq.int | exact VEq.nill rfl | exact VEq.zl rfl | exact VEq.nil | exact VEq.li_1 | exact VEq.li_2 | exact VEq.li_3 | exact VEq.li_4 | exact VEq.lp_1 | exact VEq.lp_2 | exact VEq.lp_3 | exact VEq.lp_4 | exact VEq.lt_1 | exact VEq.lt_2 | exact VEq.lt_3 | apply VEq.ms | apply VEq.sll | apply VEq.aggs | apply EEq.boxs | apply EEq.app1 | apply EEq.app2 | apply EEq.app3 | apply CEq.ms | apply CEq.int | apply CEq.sll | exact CEq.nill rfl | apply And.intro | exact rfl))) C106 rfl ?_ ?_; (· (first | trivial | omega | ((try simp only [R64, true_and, and_true, Int.toNat_natCast, List.length_cons, List.length_nil]); omega)))) ) | (refine OpsDL.same ?_; first | refine OpsD.pc rfl (Fits.eq rfl) C106 rfl ?_ | (refine OpsD.pcp rfl (Fits.eq rfl) C106 rfl ?_ ?_; (· (first | trivial | omega | ((try simp only [R64, true_and, and_true, Int.toNat_natCast, List.length_cons, List.length_nil]); omega)))) | refine OpsD.pc rfl (Fits.veq (by (repeat' first | exact True.intro | exact VEq.refl _ | exact EEq.same _ | exact CEq.refl _ | exact VEq.int rfl | apply VEq.tru | apply VEq.fls | apply VEq.bool | apply VEq.int | exact VEq.nill rfl | exact VEq.zl rfl | exact VEq.nil | exact VEq.li_1 | exact VEq.li_2 | exact VEq.li_3 | exact VEq.li_4 | exact VEq.lp_1 | exact VEq.lp_2 | exact VEq.lp_3 | exact VEq.lp_4 | exact VEq.lt_1 | exact VEq.lt_2 | exact VEq.lt_3 | apply VEq.ms | apply VEq.sll | apply VEq.aggs | apply EEq.boxs | apply EEq.app1 | apply EEq.app2 | apply EEq.app3 | apply CEq.ms | apply CEq.int | apply CEq.sll | exact CEq.nill rfl | apply And.intro | exact rfl))) C106 rfl ?_ | (refine OpsD.pcp rfl (Fits.veq (by (repeat' first | exact True.intro | exact VEq.refl _ | exact EEq.same _ | exact CEq.refl _ | exact VEq.int rfl | apply VEq.tru | apply VEq.fls | apply VEq.bool | apply VEq.int | exact VEq.nill rfl | exact VEq.zl rfl | exact VEq.nil | exact VEq.li_1 | exact VEq.li_2 | exact VEq.li_3 | exact VEq.li_4 | exact VEq.lp_1 | exact VEq.lp_2 | exact VEq.lp_3 | exact VEq.lp_4 | exact VEq.lt_1 | exact VEq.lt_2 | exact VEq.lt_3 | apply VEq.ms | apply VEq.sll | apply VEq.aggs | apply EEq.boxs | apply EEq.app1 | apply EEq.app2 | apply EEq.app3 | apply CEq.ms | apply CEq.int | apply CEq.sll | exact CEq.nill rfl | apply And.intro | exact rfl))) C106 rfl ?_ ?_; (· (first | trivial | omega | ((try simp only [R64, true_and, and_true, Int.toNat_natCast, List.length_cons, List.length_nil]); omega)))) ) | refine MvQ.stay ?_ | refine Owe.mk ?_ ?_)
  · (refine RetQ.plain (Nat.le_refl _) (by first | exact .inr rfl | exact .inl rfl) rfl (by (simp only [cloL, clo, cloC, cloCs, and_self])) ?_; (repeat' first | exact True.intro | exact VEq.refl _ | exact EEq.same _ | exact CEq.refl _ | exact VEq.int rfl | apply VEq.tru | apply VEq.fls | apply VEq.bool | apply VEq.int | exact VEq.nill rfl | exact VEq.zl rfl | exact VEq.nil | exact VEq.li_1 | exact VEq.li_2 | exact VEq.li_3 | exact VEq.li_4 | exact VEq.lp_1 | exact VEq.lp_2 | exact VEq.lp_3 | exact VEq.lp_4 | exact VEq.lt_1 | exact VEq.lt_2 | exact VEq.lt_3 | apply VEq.ms | apply VEq.sll | apply VEq.aggs | apply EEq.boxs | apply EEq.app1 | apply EEq.app2 | apply EEq.app3 | apply CEq.ms | apply CEq.int | apply CEq.sll | exact CEq.nill rfl | apply And.intro | exact rfl)); simp [*]
  · (refine RetQ.plain (Nat.le_refl _) (by first | exact .inr rfl | exact .inl rfl) rfl (by (simp only [cloL, clo, cloC, cloCs, and_self])) ?_; (repeat' first | exact True.intro | exact VEq.refl _ | exact EEq.same _ | exact CEq.refl _ | exact VEq.int rfl | apply VEq.tru | apply VEq.fls | apply VEq.bool | apply VEq.int | exact VEq.nill rfl | exact VEq.zl rfl | exact VEq.nil | exact VEq.li_1 | exact VEq.li_2 | exact VEq.li_3 | exact VEq.li_4 | exact VEq.lp_1 | exact VEq.lp_2 | exact VEq.lp_3 | exact VEq.lp_4 | exact VEq.lt_1 | exact VEq.lt_2 | exact VEq.lt_3 | apply VEq.ms | apply VEq.sll | apply VEq.aggs | apply EEq.boxs | apply EEq.app1 | apply EEq.app2 | apply EEq.app3 | apply CEq.ms | apply CEq.int | apply CEq.sll | exact CEq.nill rfl | apply And.intro | exact rfl)); simp only [decide_eq_false_iff_not]; omega
theorem C137 {p : Int × Int} : PFD Try.prog 137 [.agg [int p.1, int p.2]] (vbl (!decide (isPl p))) := by
  refine PFD.of (vs := [_]) fn137 rfl (by (simp only [cloL, clo, cloC, cloCs, and_self])) ?_
  (repeat' first | (refine Owe.mk ?_ ?_; (· (first | trivial | omega | ((try simp only [R64, true_and, and_true, Int.toNat_natCast, List.length_cons, List.length_nil]); omega)))) | (refine Fork.same ?_; first | refine Fork.dec (fun h => ?_) (fun h => ?_) | refine Fork.ndec (fun h => ?_) (fun h => ?_) | refine Fork.mk (fun h => ?_) (fun h => ?_)) | (refine OpsL.same ?_; first | refine Ops.pc rfl (Fits.eq rfl) C138 rfl ?_ | (refine Ops.pcp rfl (Fits.eq rfl) C138 rfl ?_ ?_; (· (first | trivial | omega | ((try simp only [R64, true_and, and_true, Int.toNat_natCast, List.length_cons, List.length_nil]); omega)))) | refine Ops.pc rfl (Fits.veq (by (repeat' first | exact True.intro | exact VEq.refl _ | exact EEq.same _ | exact CEq.refl _ | exact VEq.int rfl | apply VEq.tru | apply VEq.fls | apply VEq.bool | apply VEq.int | exact VEq.nill rfl | exact VEq.zl rfl | exact VEq.nil | exact VEq.li_1 | exact VEq.li_2 | exact VEq.li_3 | exact VEq.li_4 | exact VEq.lp_1 | exact VEq.lp_2 | exact VEq.lp_3 | exact VEq.lp_4 | exact VEq.lt_1 | exact VEq.lt_2 | exact VEq.lt_3 | apply VEq.ms | apply VEq.sll | apply VEq.aggs | apply EEq.boxs | apply EEq.app1 | apply EEq.app2 | apply EEq.app3 | apply CEq.ms | apply CEq.int | apply CEq.sll | exact CEq.nill rfl | apply And.intro | exact rfl))) C138 rfl ?_ | (refine Ops.pcp rfl (Fits.veq (by (repeat' first | exact True.intro | exact VEq.refl _ | exact EEq.same _ | exact CEq.refl _ | exact VEq.int rfl | apply VEq.tru | apply VEq.fls | apply VEq.bool | apply VEq.int | exact VEq.nill rfl | exact VEq.zl rfl | exact VEq.nil | exact VEq.li_1 | exact VEq.li_2 | exact VEq.li_3 | exact VEq.li_4 | exact VEq.lp_1 | exact VEq.lp_2 | exact VEq.lp_3 | exact VEq.lp_4 | exact VEq.lt_1 | exact VEq.lt_2 | exact VEq.lt_3 | apply VEq.ms | apply VEq.sll | apply VEq.aggs | apply EEq.boxs | apply EEq.app1 | apply EEq.app2 | apply EEq.app3 | apply CEq.ms | apply CEq.int | apply CEq.sll | exact CEq.nill rfl | apply And.intro | exact rfl))) C138 rfl ?_ ?_; (· (first | trivial | omega | ((try simp only [R64, true_and, and_true, Int.toNat_natCast, List.length_cons, List.length_nil]); omega)))) ) | (refine OpsDL.same ?_; first | refine OpsD.pc rfl (Fits.eq rfl) C138 rfl ?_ | (refine OpsD.pcp rfl (Fits.eq rfl) C138 rfl ?_ ?_; (· (first | trivial | omega | ((try simp only [R64, true_and, and_true, Int.toNat_natCast, List.length_cons, List.length_nil]); omega)))) | refine OpsD.pc rfl (Fits.veq (by (repeat' first | exact True.intro | exact VEq.refl _ | exact EEq.same _ | exact CEq.refl _ | exact VEq.int rfl | apply VEq.tru | apply VEq.fls | apply VEq.bool | apply VEq.int | exact VEq.nill rfl | exact VEq.zl rfl | exact VEq.nil | exact VEq.li_1 | exact VEq.li_2 | exact VEq.li_3 | exact VEq.li_4 | exact VEq.lp_1 | exact VEq.lp_2 | exact VEq.lp_3 | exact VEq.lp_4 | exact VEq.lt_1 | exact VEq.lt_2 | exact VEq.lt_3 | apply VEq.ms | apply VEq.sll | apply VEq.aggs | apply EEq.boxs | apply EEq.app1 | apply EEq.app2 | apply EEq.app3 | apply CEq.ms | apply CEq.int | apply CEq.sll | exact CEq.nill rfl | apply And.intro | exact rfl))) C138 rfl ?_ | (refine OpsD.pcp rfl (Fits.veq (by (repeat' first | exact True.intro | exact VEq.refl _ | exact EEq.same _ | exact CEq.refl _ | exact VEq.int rfl | apply VEq.tru | apply VEq.fls | apply VEq.bool | apply VEq.int | exact VEq.nill rfl | exact VEq.zl rfl | exact VEq.nil | exact VEq.li_1 | exact VEq.li_2 | exact VEq.li_3 | exact VEq.li_4 | exact VEq.lp_1 | exact VEq.lp_2 | exact VEq.lp_3 | exact VEq.lp_4 | exact VEq.lt_1 | exact VEq.lt_2 | exact VEq.lt_3 | apply VEq.ms | apply VEq.sll | apply VEq.aggs | apply EEq.boxs | apply EEq.app1 | apply EEq.app2 | apply EEq.app3 | apply CEq.ms | apply CEq.int | apply CEq.sll | exact CEq.nill rfl | apply And.intro | exact rfl))) C138 rfl ?_ ?_; (· (first | trivial | omega | ((try simp only [R64, true_and, and_true, Int.toNat_natCast, List.length_cons, List.length_nil]); omega)))) ) | refine MvQ.stay ?_ | refine Owe.mk ?_ ?_)
  (refine RetQ.plain (Nat.le_refl _) (by first | exact .inr rfl | exact .inl rfl) rfl (by (simp only [cloL, clo, cloC, cloCs, and_self])) ?_; (repeat' first | exact True.intro | exact VEq.refl _ | exact EEq.same _ | exact CEq.refl _ | exact VEq.int rfl | apply VEq.tru | apply VEq.fls | apply VEq.bool | apply VEq.int | exact VEq.nill rfl | exact VEq.zl rfl | exact VEq.nil | exact VEq.li_1 | exact VEq.li_2 | exact VEq.li_3 | exact VEq.li_4 | exact VEq.lp_1 | exact VEq.lp_2 | exact VEq.lp_3 | exact VEq.lp_4 | exact VEq.lt_1 | exact VEq.lt_2 | exact VEq.lt_3 | apply VEq.ms | apply VEq.sll | apply VEq.aggs | apply EEq.boxs | apply EEq.app1 | apply EEq.app2 | apply EEq.app3 | apply CEq.ms | apply CEq.int | apply CEq.sll | exact CEq.nill rfl | apply And.intro | exact rfl))
/-- An error unless. -/
def unb : Bool → Int → Int
  | true, _ => 0
  | false, e => e
abbrev unl (p : Prop) [Decidable p] (e : Int) : Int := unb (decide p) e
theorem unl_eq {p : Prop} [Decidable p] {e : Int} : unl p e = if p then 0 else e := by
  by_cases h : p <;> simp [unl, unb, h]
theorem unb_eq {b : Bool} {e : Int} : unb b e = if b = true then 0 else e := by cases b <;> rfl
theorem C91 {b : Bool} {e : Int} : PFD Try.prog 91 [vbl b, vi .i64 e] (vi .i64 (unb b e)) := by
  refine PFD.of (vs := [_]) fn91 rfl (by (simp only [cloL, clo, cloC, cloCs, and_self])) ?_
  (repeat' first | (refine Owe.mk ?_ ?_; (· (first | trivial | omega | ((try simp only [R64, true_and, and_true, Int.toNat_natCast, List.length_cons, List.length_nil]); omega)))) | (refine Fork.same ?_; first | refine Fork.dec (fun h => ?_) (fun h => ?_) | refine Fork.ndec (fun h => ?_) (fun h => ?_) | refine Fork.mk (fun h => ?_) (fun h => ?_)) | refine MvQ.stay ?_ | refine Owe.mk ?_ ?_)
  · (refine RetQ.plain (Nat.le_refl _) (by first | exact .inr rfl | exact .inl rfl) rfl (by (simp only [cloL, clo, cloC, cloCs, and_self])) ?_; (repeat' first | exact True.intro | exact VEq.refl _ | exact EEq.same _ | exact CEq.refl _ | exact VEq.int rfl | apply VEq.tru | apply VEq.fls | apply VEq.bool | apply VEq.int | exact VEq.nill rfl | exact VEq.zl rfl | exact VEq.nil | exact VEq.li_1 | exact VEq.li_2 | exact VEq.li_3 | exact VEq.li_4 | exact VEq.lp_1 | exact VEq.lp_2 | exact VEq.lp_3 | exact VEq.lp_4 | exact VEq.lt_1 | exact VEq.lt_2 | exact VEq.lt_3 | apply VEq.ms | apply VEq.sll | apply VEq.aggs | apply EEq.boxs | apply EEq.app1 | apply EEq.app2 | apply EEq.app3 | apply CEq.ms | apply CEq.int | apply CEq.sll | exact CEq.nill rfl | apply And.intro | exact rfl)); simp [unb, *]
  · (refine RetQ.plain (Nat.le_refl _) (by first | exact .inr rfl | exact .inl rfl) rfl (by (simp only [cloL, clo, cloC, cloCs, and_self])) ?_; (repeat' first | exact True.intro | exact VEq.refl _ | exact EEq.same _ | exact CEq.refl _ | exact VEq.int rfl | apply VEq.tru | apply VEq.fls | apply VEq.bool | apply VEq.int | exact VEq.nill rfl | exact VEq.zl rfl | exact VEq.nil | exact VEq.li_1 | exact VEq.li_2 | exact VEq.li_3 | exact VEq.li_4 | exact VEq.lp_1 | exact VEq.lp_2 | exact VEq.lp_3 | exact VEq.lp_4 | exact VEq.lt_1 | exact VEq.lt_2 | exact VEq.lt_3 | apply VEq.ms | apply VEq.sll | apply VEq.aggs | apply EEq.boxs | apply EEq.app1 | apply EEq.app2 | apply EEq.app3 | apply CEq.ms | apply CEq.int | apply CEq.sll | exact CEq.nill rfl | apply And.intro | exact rfl)); simp [unb, *]
/-- The first one that is not 0. -/
def fstE : List Int → Int
  | [] => 0
  | e :: l => if e = 0 then fstE l else e
theorem fstE_drop (l : List Int) (k : Nat) (h : k < l.length) : fstE (l.drop k) = if l.getD k 0 = 0 then fstE (l.drop (k + 1)) else l.getD k 0 := by
  rw [List.drop_eq_getElem_cons h, fstE, List.getD_eq_getElem?_getD, List.getElem?_eq_getElem h]
  rfl
theorem C90 {l : List Int} : l.length < 4611686018427387904 → PFD Try.prog 90 [.c (ints l)] (vi .i64 (fstE l)) := fun hl => by
  refine PFD.of (vs := [_]) fn90 rfl (by (simp only [cloL, clo, cloC, cloCs, and_self])) ?_
  (repeat' first | (refine Owe.mk ?_ ?_; (· (first | trivial | omega | ((try simp only [R64, true_and, and_true, Int.toNat_natCast, List.length_cons, List.length_nil]); omega)))) | (refine Fork.same ?_; first | refine Fork.dec (fun h => ?_) (fun h => ?_) | refine Fork.ndec (fun h => ?_) (fun h => ?_) | refine Fork.mk (fun h => ?_) (fun h => ?_)) | refine MvQ.stay ?_ | refine Owe.mk ?_ ?_)
  refine Sat.lp0 (fun k : Nat => [(7, vi .i64 k), (6, vi .i64 l.length), (5, .c (ints l))]) (fun k => k ≤ l.length ∧ fstE l = fstE (l.drop k)) (fun k => l.length - k) 0 ⟨Nat.zero_le _, rfl⟩ (by (repeat' first | exact True.intro | exact VEq.refl _ | exact EEq.same _ | exact CEq.refl _ | exact VEq.int rfl | apply VEq.tru | apply VEq.fls | apply VEq.bool | apply VEq.int | exact VEq.nill rfl | exact VEq.zl rfl | exact VEq.nil | exact VEq.li_1 | exact VEq.li_2 | exact VEq.li_3 | exact VEq.li_4 | exact VEq.lp_1 | exact VEq.lp_2 | exact VEq.lp_3 | exact VEq.lp_4 | exact VEq.lt_1 | exact VEq.lt_2 | exact VEq.lt_3 | apply VEq.ms | apply VEq.sll | apply VEq.aggs | apply EEq.boxs | apply EEq.app1 | apply EEq.app2 | apply EEq.app3 | apply CEq.ms | apply CEq.int | apply CEq.sll | exact CEq.nill rfl | apply And.intro | exact rfl)) ?_
  intro k hk
  (repeat' first | (refine Owe.mk ?_ ?_; (· (first | trivial | omega | ((try simp only [R64, true_and, and_true, Int.toNat_natCast, List.length_cons, List.length_nil]); omega)))) | (refine Fork.same ?_; first | refine Fork.dec (fun h => ?_) (fun h => ?_) | refine Fork.ndec (fun h => ?_) (fun h => ?_) | refine Fork.mk (fun h => ?_) (fun h => ?_)) | refine MvQ.stay ?_ | refine Owe.mk ?_ ?_)
  · simp only [Int.toNat_natCast] at h
    (refine RetQ.plain (Nat.le_refl _) (by first | exact .inr rfl | exact .inl rfl) rfl (by (simp only [cloL, clo, cloC, cloCs, and_self])) ?_; (repeat' first | exact True.intro | exact VEq.refl _ | exact EEq.same _ | exact CEq.refl _ | exact VEq.int rfl | apply VEq.tru | apply VEq.fls | apply VEq.bool | apply VEq.int | exact VEq.nill rfl | exact VEq.zl rfl | exact VEq.nil | exact VEq.li_1 | exact VEq.li_2 | exact VEq.li_3 | exact VEq.li_4 | exact VEq.lp_1 | exact VEq.lp_2 | exact VEq.lp_3 | exact VEq.lp_4 | exact VEq.lt_1 | exact VEq.lt_2 | exact VEq.lt_3 | apply VEq.ms | apply VEq.sll | apply VEq.aggs | apply EEq.boxs | apply EEq.app1 | apply EEq.app2 | apply EEq.app3 | apply CEq.ms | apply CEq.int | apply CEq.sll | exact CEq.nill rfl | apply And.intro | exact rfl))
    rw [hk.2, fstE_drop l k (by omega), if_neg h, Int.toNat_natCast]
  · simp only [Int.toNat_natCast] at h
    refine again0 (k + 1) ⟨by omega, ?_⟩ (by omega) (by (repeat' first | exact True.intro | exact VEq.refl _ | exact EEq.same _ | exact CEq.refl _ | exact VEq.int rfl | apply VEq.tru | apply VEq.fls | apply VEq.bool | apply VEq.int | exact VEq.nill rfl | exact VEq.zl rfl | exact VEq.nil | exact VEq.li_1 | exact VEq.li_2 | exact VEq.li_3 | exact VEq.li_4 | exact VEq.lp_1 | exact VEq.lp_2 | exact VEq.lp_3 | exact VEq.lp_4 | exact VEq.lt_1 | exact VEq.lt_2 | exact VEq.lt_3 | apply VEq.ms | apply VEq.sll | apply VEq.aggs | apply EEq.boxs | apply EEq.app1 | apply EEq.app2 | apply EEq.app3 | apply CEq.ms | apply CEq.int | apply CEq.sll | exact CEq.nill rfl | apply And.intro | exact rfl))
    rw [hk.2, fstE_drop l k (by omega), if_pos h]
  · (refine RetQ.plain (Nat.le_refl _) (by first | exact .inr rfl | exact .inl rfl) rfl (by (simp only [cloL, clo, cloC, cloCs, and_self])) ?_; (repeat' first | exact True.intro | exact VEq.refl _ | exact EEq.same _ | exact CEq.refl _ | exact VEq.int rfl | apply VEq.tru | apply VEq.fls | apply VEq.bool | apply VEq.int | exact VEq.nill rfl | exact VEq.zl rfl | exact VEq.nil | exact VEq.li_1 | exact VEq.li_2 | exact VEq.li_3 | exact VEq.li_4 | exact VEq.lp_1 | exact VEq.lp_2 | exact VEq.lp_3 | exact VEq.lp_4 | exact VEq.lt_1 | exact VEq.lt_2 | exact VEq.lt_3 | apply VEq.ms | apply VEq.sll | apply VEq.aggs | apply EEq.boxs | apply EEq.app1 | apply EEq.app2 | apply EEq.app3 | apply CEq.ms | apply CEq.int | apply CEq.sll | exact CEq.nill rfl | apply And.intro | exact rfl))
    rw [hk.2, List.drop_of_length_le (by omega)]; rfl
end Go.Pw

set_option linter.unusedSimpArgs false
namespace Go.Pw
open Go Go.Proofs
theorem tdiv_bd {a b M : Int} (h : -M ≤ a ∧ a ≤ M) : -M ≤ a.tdiv b ∧ a.tdiv b ≤ M := by
  have h1 : (a.tdiv b).natAbs ≤ a.natAbs := by rw [Int.natAbs_tdiv]; exact Nat.div_le_self _ _
  omega
theorem floor_eq {n b : Int} (hb : 0 < b) : (if n.tmod b < 0 then n.tdiv b - 1 else n.tdiv b) = n / b := by
  have h1 := Int.tmod_add_mul_tdiv n b
  have h2 := Int.emod_add_mul_ediv n b
  have h3 := Int.emod_nonneg n (show b ≠ 0 by omega)
  have h4 := Int.emod_lt_of_pos n hb
  have h5 : n.tmod b < b := Int.tmod_lt_of_pos n hb
  have h6 : -b < n.tmod b := by
    have := Int.natAbs_tmod n b
    have h7 : (n.natAbs % b.natAbs) < b.natAbs := Nat.mod_lt _ (by omega)
    omega
  split
  · refine Int.eq_of_mul_eq_mul_left (show b ≠ 0 by omega) ?_
    have h7 : b * (n / b) - b * (n.tdiv b - 1) = n.tmod b + b - n % b := by rw [Int.mul_sub]; omega
    have h8 : b * (n / b) - b * (n.tdiv b - 1) = b * (n / b - (n.tdiv b - 1)) := by rw [← Int.mul_sub]
    rw [h8] at h7
    have h9 : n / b - (n.tdiv b - 1) = 0 := by
      rcases Int.lt_trichotomy (n / b - (n.tdiv b - 1)) 0 with h | h | h
      · have := Int.mul_le_mul_of_nonneg_left (show n / b - (n.tdiv b - 1) ≤ -1 by omega) (show 0 ≤ b by omega); omega
      · exact h
      · have := Int.mul_le_mul_of_nonneg_left (show 1 ≤ n / b - (n.tdiv b - 1) by omega) (show 0 ≤ b by omega); omega
    rw [show n.tdiv b - 1 = n / b by omega]
  · have h7 : b * (n / b) - b * n.tdiv b = n.tmod b - n % b := by omega
    rw [← Int.mul_sub] at h7
    rcases Int.lt_trichotomy (n / b - n.tdiv b) 0 with h | h | h
    · have := Int.mul_le_mul_of_nonneg_left (show n / b - n.tdiv b ≤ -1 by omega) (show 0 ≤ b by omega); omega
    · omega
    · have := Int.mul_le_mul_of_nonneg_left (show 1 ≤ n / b - n.tdiv b by omega) (show 0 ≤ b by omega); omega
theorem mod_eq {n b : Int} (hb : 0 < b) : (if n.tmod b < 0 then n.tmod b + b else n.tmod b) = n % b := by
  have h1 := Int.tmod_add_mul_tdiv n b
  have h2 := Int.emod_add_mul_ediv n b
  have h3 := floor_eq (n := n) hb
  split
  · rename_i h; rw [if_pos h] at h3; rw [← h3, Int.mul_sub] at h2; omega
  · rename_i h; rw [if_neg h] at h3; rw [← h3] at h2; omega
abbrev Md (n : Int) : Prop := -4611686018427387904 ≤ n ∧ n ≤ 4611686018427387904
theorem tmod_bd {n b : Int} (hb : 0 < b) : -b < n.tmod b ∧ n.tmod b < b := by
  have h5 : n.tmod b < b := Int.tmod_lt_of_pos n hb
  have := Int.natAbs_tmod n b
  have h7 : (n.natAbs % b.natAbs) < b.natAbs := Nat.mod_lt _ (by omega)
  omega
theorem C144 {n b : Int} : (Md n ∧ 0 < b) → PFD Try.prog 144 [vi .i64 n, vi .i64 b] (vi .i64 (n / b)) := fun ⟨hn, hb⟩ => by
  have h5 := tdiv_bd (b := b) hn
  refine PFD.of (vs := [_]) fn144 rfl (by (simp only [cloL, clo, cloC, cloCs, and_self])) ?_
  (repeat' first | (refine Owe.mk ?_ ?_; (· (first | trivial | omega | ((try simp only [R64, true_and, and_true, Int.toNat_natCast, List.length_cons, List.length_nil]); omega)))) | (refine Fork.same ?_; first | refine Fork.dec (fun h => ?_) (fun h => ?_) | refine Fork.ndec (fun h => ?_) (fun h => ?_) | refine Fork.mk (fun h => ?_) (fun h => ?_)) | refine MvQ.stay ?_ | refine Owe.mk ?_ ?_)
  · (refine RetQ.plain (Nat.le_refl _) (by first | exact .inr rfl | exact .inl rfl) rfl (by (simp only [cloL, clo, cloC, cloCs, and_self])) ?_; (repeat' first | exact True.intro | exact VEq.refl _ | exact EEq.same _ | exact CEq.refl _ | exact VEq.int rfl | apply VEq.tru | apply VEq.fls | apply VEq.bool | apply VEq.int | exact VEq.nill rfl | exact VEq.zl rfl | exact VEq.nil | exact VEq.li_1 | exact VEq.li_2 | exact VEq.li_3 | exact VEq.li_4 | exact VEq.lp_1 | exact VEq.lp_2 | exact VEq.lp_3 | exact VEq.lp_4 | exact VEq.lt_1 | exact VEq.lt_2 | exact VEq.lt_3 | apply VEq.ms | apply VEq.sll | apply VEq.aggs | apply EEq.boxs | apply EEq.app1 | apply EEq.app2 | apply EEq.app3 | apply CEq.ms | apply CEq.int | apply CEq.sll | exact CEq.nill rfl | apply And.intro | exact rfl)); rw [← floor_eq hb, if_pos h]
  · (refine RetQ.plain (Nat.le_refl _) (by first | exact .inr rfl | exact .inl rfl) rfl (by (simp only [cloL, clo, cloC, cloCs, and_self])) ?_; (repeat' first | exact True.intro | exact VEq.refl _ | exact EEq.same _ | exact CEq.refl _ | exact VEq.int rfl | apply VEq.tru | apply VEq.fls | apply VEq.bool | apply VEq.int | exact VEq.nill rfl | exact VEq.zl rfl | exact VEq.nil | exact VEq.li_1 | exact VEq.li_2 | exact VEq.li_3 | exact VEq.li_4 | exact VEq.lp_1 | exact VEq.lp_2 | exact VEq.lp_3 | exact VEq.lp_4 | exact VEq.lt_1 | exact VEq.lt_2 | exact VEq.lt_3 | apply VEq.ms | apply VEq.sll | apply VEq.aggs | apply EEq.boxs | apply EEq.app1 | apply EEq.app2 | apply EEq.app3 | apply CEq.ms | apply CEq.int | apply CEq.sll | exact CEq.nill rfl | apply And.intro | exact rfl)); rw [← floor_eq hb, if_neg h]
theorem ediv_bd {a b M : Int} (hb : 0 < b) (h : -M ≤ a ∧ a ≤ M) : -M ≤ a / b ∧ a / b ≤ M := by
  constructor
  · have := Int.le_ediv_of_mul_le (c := b) (a := -M) (b := a) hb (by
      have h2 : M * 1 ≤ M * b := Int.mul_le_mul_of_nonneg_left (by omega) (by omega)
      rw [Int.neg_mul]; omega)
    exact this
  · have h2 : M * 1 ≤ M * b := Int.mul_le_mul_of_nonneg_left (by omega) (by omega)
    exact Int.ediv_le_of_le_mul hb (by omega)
abbrev ceilI (n b : Int) : Int := -(-n / b)
theorem C145 {n b : Int} : (Md n ∧ 0 < b) → PFD Try.prog 145 [vi .i64 n, vi .i64 b] (vi .i64 (ceilI n b)) := fun ⟨hn, hb⟩ => by
  have h5 := ediv_bd (a := -n) (M := 4611686018427387904) hb (by omega)
  refine PFD.of (vs := [_]) fn145 rfl (by (simp only [cloL, clo, cloC, cloCs, and_self])) ?_
  (repeat' first | (refine Owe.mk ?_ ?_; (· (first | trivial | omega | ((try simp only [R64, true_and, and_true, Int.toNat_natCast, List.length_cons, List.length_nil]); omega)))) | (refine Fork.same ?_; first | refine Fork.dec (fun h => ?_) (fun h => ?_) | refine Fork.ndec (fun h => ?_) (fun h => ?_) | refine Fork.mk (fun h => ?_) (fun h => ?_)) | (refine OpsL.same ?_; first | refine Ops.pc rfl (Fits.eq rfl) C144 rfl ?_ | (refine Ops.pcp rfl (Fits.eq rfl) C144 rfl ?_ ?_; (· (first | trivial | omega | ((try simp only [R64, true_and, and_true, Int.toNat_natCast, List.length_cons, List.length_nil]); omega)))) | refine Ops.pc rfl (Fits.veq (by (repeat' first | exact True.intro | exact VEq.refl _ | exact EEq.same _ | exact CEq.refl _ | exact VEq.int rfl | apply VEq.tru | apply VEq.fls | apply VEq.bool | apply VEq.int | exact VEq.nill rfl | exact VEq.zl rfl | exact VEq.nil | exact VEq.li_1 | exact VEq.li_2 | exact VEq.li_3 | exact VEq.li_4 | exact VEq.lp_1 | exact VEq.lp_2 | exact VEq.lp_3 | exact VEq.lp_4 | exact VEq.lt_1 | exact VEq.lt_2 | exact VEq.lt_3 | apply VEq.ms | apply VEq.sll | apply VEq.aggs | apply EEq.boxs | apply EEq.app1 | apply EEq.app2 | apply EEq.app3 | apply CEq.ms | apply CEq.int | apply CEq.sll | exact CEq.nill rfl | apply And.intro | exact rfl))) C144 rfl ?_ | (refine Ops.pcp rfl (Fits.veq (by (repeat' first | exact True.intro | exact VEq.refl _ | exact EEq.same _ | exact CEq.refl _ | exact VEq.int rfl | apply VEq.tru | apply VEq.fls | apply VEq.bool | apply VEq.int | exact VEq.nill rfl | exact VEq.zl rfl | exact VEq.nil | exact VEq.li_1 | exact VEq.li_2 | exact VEq.li_3 | exact VEq.li_4 | exact VEq.lp_1 | exact VEq.lp_2 | exact VEq.lp_3 | exact VEq.lp_4 | exact VEq.lt_1 | exact VEq.lt_2 | exact VEq.lt_3 | apply VEq.ms | apply VEq.sll | apply VEq.aggs | apply EEq.boxs | apply EEq.app1 | apply EEq.app2 | apply EEq.app3 | apply CEq.ms | apply CEq.int | apply CEq.sll | exact CEq.nill rfl | apply And.intro | exact rfl))) C144 rfl ?_ ?_; (· (first | trivial | omega | ((try simp only [R64, true_and, and_true, Int.toNat_natCast, List.length_cons, List.length_nil]); omega)))) ) | (refine OpsDL.same ?_; first | refine OpsD.pc rfl (Fits.eq rfl) C144 rfl ?_ | (refine OpsD.pcp rfl (Fits.eq rfl) C144 rfl ?_ ?_; (· (first | trivial | omega | ((try simp only [R64, true_and, and_true, Int.toNat_natCast, List.length_cons, List.length_nil]); omega)))) | refine OpsD.pc rfl (Fits.veq (by (repeat' first | exact True.intro | exact VEq.refl _ | exact EEq.same _ | exact CEq.refl _ | exact VEq.int rfl | apply VEq.tru | apply VEq.fls | apply VEq.bool | apply VEq.int | exact VEq.nill rfl | exact VEq.zl rfl | exact VEq.nil | exact VEq.li_1 | exact VEq.li_2 | exact VEq.li_3 | exact VEq.li_4 | exact VEq.lp_1 | exact VEq.lp_2 | exact VEq.lp_3 | exact VEq.lp_4 | exact VEq.lt_1 | exact VEq.lt_2 | exact VEq.lt_3 | apply VEq.ms | apply VEq.sll | apply VEq.aggs | apply EEq.boxs | apply EEq.app1 | apply EEq.app2 | apply EEq.app3 | apply CEq.ms | apply CEq.int | apply CEq.sll | exact CEq.nill rfl | apply And.intro | exact rfl))) C144 rfl ?_ | (refine OpsD.pcp rfl (Fits.veq (by (repeat' first | exact True.intro | exact VEq.refl _ | exact EEq.same _ | exact CEq.refl _ | exact VEq.int rfl | apply VEq.tru | apply VEq.fls | apply VEq.bool | apply VEq.int | exact VEq.nill rfl | exact VEq.zl rfl | exact VEq.nil | exact VEq.li_1 | exact VEq.li_2 | exact VEq.li_3 | exact VEq.li_4 | exact VEq.lp_1 | exact VEq.lp_2 | exact VEq.lp_3 | exact VEq.lp_4 | exact VEq.lt_1 | exact VEq.lt_2 | exact VEq.lt_3 | apply VEq.ms | apply VEq.sll | apply VEq.aggs | apply EEq.boxs | apply EEq.app1 | apply EEq.app2 | apply EEq.app3 | apply CEq.ms | apply CEq.int | apply CEq.sll | exact CEq.nill rfl | apply And.intro | exact rfl))) C144 rfl ?_ ?_; (· (first | trivial | omega | ((try simp only [R64, true_and, and_true, Int.toNat_natCast, List.length_cons, List.length_nil]); omega)))) ) | refine MvQ.stay ?_ | refine Owe.mk ?_ ?_)
  (refine RetQ.plain (Nat.le_refl _) (by first | exact .inr rfl | exact .inl rfl) rfl (by (simp only [cloL, clo, cloC, cloCs, and_self])) ?_; (repeat' first | exact True.intro | exact VEq.refl _ | exact EEq.same _ | exact CEq.refl _ | exact VEq.int rfl | apply VEq.tru | apply VEq.fls | apply VEq.bool | apply VEq.int | exact VEq.nill rfl | exact VEq.zl rfl | exact VEq.nil | exact VEq.li_1 | exact VEq.li_2 | exact VEq.li_3 | exact VEq.li_4 | exact VEq.lp_1 | exact VEq.lp_2 | exact VEq.lp_3 | exact VEq.lp_4 | exact VEq.lt_1 | exact VEq.lt_2 | exact VEq.lt_3 | apply VEq.ms | apply VEq.sll | apply VEq.aggs | apply EEq.boxs | apply EEq.app1 | apply EEq.app2 | apply EEq.app3 | apply CEq.ms | apply CEq.int | apply CEq.sll | exact CEq.nill rfl | apply And.intro | exact rfl))
theorem C31 {l : List Int} : l.length ≤ 1000000 → PFD Try.prog 31 [.c (ints l)] (.c (ints l)) := fun h => by
  refine PFD.of (vs := [_]) fn31 rfl (by (simp only [cloL, clo, cloC, cloCs, and_self])) ?_
  (repeat' first | (refine Owe.mk ?_ ?_; (· (first | trivial | omega | ((try simp only [R64, true_and, and_true, Int.toNat_natCast, List.length_cons, List.length_nil]); omega)))) | (refine Fork.same ?_; first | refine Fork.dec (fun h => ?_) (fun h => ?_) | refine Fork.ndec (fun h => ?_) (fun h => ?_) | refine Fork.mk (fun h => ?_) (fun h => ?_)) | refine MvQ.stay ?_ | refine Owe.mk ?_ ?_)
  (refine RetQ.plain (Nat.le_refl _) (by first | exact .inr rfl | exact .inl rfl) rfl (by (simp only [cloL, clo, cloC, cloCs, and_self])) ?_; (repeat' first | exact True.intro | exact VEq.refl _ | exact EEq.same _ | exact CEq.refl _ | exact VEq.int rfl | apply VEq.tru | apply VEq.fls | apply VEq.bool | apply VEq.int | exact VEq.nill rfl | exact VEq.zl rfl | exact VEq.nil | exact VEq.li_1 | exact VEq.li_2 | exact VEq.li_3 | exact VEq.li_4 | exact VEq.lp_1 | exact VEq.lp_2 | exact VEq.lp_3 | exact VEq.lp_4 | exact VEq.lt_1 | exact VEq.lt_2 | exact VEq.lt_3 | apply VEq.ms | apply VEq.sll | apply VEq.aggs | apply EEq.boxs | apply EEq.app1 | apply EEq.app2 | apply EEq.app3 | apply CEq.ms | apply CEq.int | apply CEq.sll | exact CEq.nill rfl | apply And.intro | exact rfl))
theorem C48 {l : List (Int × Int)} : l.length ≤ 1000000 → PFD Try.prog 48 [.c (prs l)] (.c (prs l)) := fun h => by
  refine PFD.of (vs := [_]) fn48 rfl (by (simp only [cloL, clo, cloC, cloCs, and_self])) ?_
  (repeat' first | (refine Owe.mk ?_ ?_; (· (first | trivial | omega | ((try simp only [R64, true_and, and_true, Int.toNat_natCast, List.length_cons, List.length_nil]); omega)))) | (refine Fork.same ?_; first | refine Fork.dec (fun h => ?_) (fun h => ?_) | refine Fork.ndec (fun h => ?_) (fun h => ?_) | refine Fork.mk (fun h => ?_) (fun h => ?_)) | refine MvQ.stay ?_ | refine Owe.mk ?_ ?_)
  (refine RetQ.plain (Nat.le_refl _) (by first | exact .inr rfl | exact .inl rfl) rfl (by (simp only [cloL, clo, cloC, cloCs, and_self])) ?_; (repeat' first | exact True.intro | exact VEq.refl _ | exact EEq.same _ | exact CEq.refl _ | exact VEq.int rfl | apply VEq.tru | apply VEq.fls | apply VEq.bool | apply VEq.int | exact VEq.nill rfl | exact VEq.zl rfl | exact VEq.nil | exact VEq.li_1 | exact VEq.li_2 | exact VEq.li_3 | exact VEq.li_4 | exact VEq.lp_1 | exact VEq.lp_2 | exact VEq.lp_3 | exact VEq.lp_4 | exact VEq.lt_1 | exact VEq.lt_2 | exact VEq.lt_3 | apply VEq.ms | apply VEq.sll | apply VEq.aggs | apply EEq.boxs | apply EEq.app1 | apply EEq.app2 | apply EEq.app3 | apply CEq.ms | apply CEq.int | apply CEq.sll | exact CEq.nill rfl | apply And.intro | exact rfl))
theorem C30 {x z : Int} {l : List (Int × Int × Int)} : l.length ≤ 1000000 → PFD Try.prog 30 [.agg [int x, int z, trs l]] (.agg [int x, int z, trs l]) := fun h => by
  refine PFD.of (vs := [_]) fn30 rfl (by (simp only [cloL, clo, cloC, cloCs, and_self])) ?_
  (repeat' first | (refine Owe.mk ?_ ?_; (· (first | trivial | omega | ((try simp only [R64, true_and, and_true, Int.toNat_natCast, List.length_cons, List.length_nil]); omega)))) | (refine Fork.same ?_; first | refine Fork.dec (fun h => ?_) (fun h => ?_) | refine Fork.ndec (fun h => ?_) (fun h => ?_) | refine Fork.mk (fun h => ?_) (fun h => ?_)) | refine MvQ.stay ?_ | refine Owe.mk ?_ ?_)
  (refine RetQ.plain (Nat.le_refl _) (by first | exact .inr rfl | exact .inl rfl) rfl (by (simp only [cloL, clo, cloC, cloCs, and_self])) ?_; (repeat' first | exact True.intro | exact VEq.refl _ | exact EEq.same _ | exact CEq.refl _ | exact VEq.int rfl | apply VEq.tru | apply VEq.fls | apply VEq.bool | apply VEq.int | exact VEq.nill rfl | exact VEq.zl rfl | exact VEq.nil | exact VEq.li_1 | exact VEq.li_2 | exact VEq.li_3 | exact VEq.li_4 | exact VEq.lp_1 | exact VEq.lp_2 | exact VEq.lp_3 | exact VEq.lp_4 | exact VEq.lt_1 | exact VEq.lt_2 | exact VEq.lt_3 | apply VEq.ms | apply VEq.sll | apply VEq.aggs | apply EEq.boxs | apply EEq.app1 | apply EEq.app2 | apply EEq.app3 | apply CEq.ms | apply CEq.int | apply CEq.sll | exact CEq.nill rfl | apply And.intro | exact rfl))
theorem ext_getD {α : Type} (d : α) {l m : List α} (hl : l.length = m.length) (h : ∀ i, i < l.length → l.getD i d = m.getD i d) : l = m := by
  refine List.ext_getElem hl fun i h1 h2 => ?_
  have := h i h1
  simpa [List.getD_eq_getElem?_getD, h1, h2] using this
end Go.Pw

set_option linter.unusedSimpArgs false
namespace Go.Pw
open Go Go.Proofs
theorem pair_eq {p q : Int × Int} : (decide (p.1 = q.1) && decide (p.2 = q.2)) = decide (p = q) := by
  rw [Bool.eq_iff_iff]; simp [Prod.ext_iff]
theorem C39 {l m : List (Int × Int)} : l.length < 4611686018427387904 → PFD Try.prog 39 [.c (prs l), .c (prs m)] (vbl (decide (l = m))) := fun hl => by
  refine PFD.of (vs := [_]) fn39 rfl (by (simp only [cloL, clo, cloC, cloCs, and_self])) ?_
  (repeat' first | (refine Owe.mk ?_ ?_; (· (first | trivial | omega | ((try simp only [R64, true_and, and_true, Int.toNat_natCast, List.length_cons, List.length_nil]); omega)))) | (refine Fork.same ?_; first | refine Fork.dec (fun h => ?_) (fun h => ?_) | refine Fork.ndec (fun h => ?_) (fun h => ?_) | refine Fork.mk (fun h => ?_) (fun h => ?_)) | refine MvQ.stay ?_ | refine Owe.mk ?_ ?_)
  · (refine RetQ.plain (Nat.le_refl _) (by first | exact .inr rfl | exact .inl rfl) rfl (by (simp only [cloL, clo, cloC, cloCs, and_self])) ?_; (repeat' first | exact True.intro | exact VEq.refl _ | exact EEq.same _ | exact CEq.refl _ | exact VEq.int rfl | apply VEq.tru | apply VEq.fls | apply VEq.bool | apply VEq.int | exact VEq.nill rfl | exact VEq.zl rfl | exact VEq.nil | exact VEq.li_1 | exact VEq.li_2 | exact VEq.li_3 | exact VEq.li_4 | exact VEq.lp_1 | exact VEq.lp_2 | exact VEq.lp_3 | exact VEq.lp_4 | exact VEq.lt_1 | exact VEq.lt_2 | exact VEq.lt_3 | apply VEq.ms | apply VEq.sll | apply VEq.aggs | apply EEq.boxs | apply EEq.app1 | apply EEq.app2 | apply EEq.app3 | apply CEq.ms | apply CEq.int | apply CEq.sll | exact CEq.nill rfl | apply And.intro | exact rfl)); simp only [decide_eq_false_iff_not]; intro he; subst he; omega
  · have hlm : l.length = m.length := by omega
    clear h
    refine Sat.lp0 (fun k : Nat => [(5, vi .i64 k), (0, .c (prs l)), (1, .c (prs m))]) (fun k => k ≤ l.length ∧ ∀ i, i < k → l.getD i (0, 0) = m.getD i (0, 0)) (fun k => l.length - k) 0 ⟨Nat.zero_le _, fun i hi => by omega⟩ (by (repeat' first | exact True.intro | exact VEq.refl _ | exact EEq.same _ | exact CEq.refl _ | exact VEq.int rfl | apply VEq.tru | apply VEq.fls | apply VEq.bool | apply VEq.int | exact VEq.nill rfl | exact VEq.zl rfl | exact VEq.nil | exact VEq.li_1 | exact VEq.li_2 | exact VEq.li_3 | exact VEq.li_4 | exact VEq.lp_1 | exact VEq.lp_2 | exact VEq.lp_3 | exact VEq.lp_4 | exact VEq.lt_1 | exact VEq.lt_2 | exact VEq.lt_3 | apply VEq.ms | apply VEq.sll | apply VEq.aggs | apply EEq.boxs | apply EEq.app1 | apply EEq.app2 | apply EEq.app3 | apply CEq.ms | apply CEq.int | apply CEq.sll | exact CEq.nill rfl | apply And.intro | exact rfl)) ?_
    intro k hk
    (repeat' first | (refine Owe.mk ?_ ?_; (· (first | trivial | omega | ((try simp only [R64, true_and, and_true, Int.toNat_natCast, List.length_cons, List.length_nil]); omega)))) | (refine Fork.same ?_; first | refine Fork.dec (fun h => ?_) (fun h => ?_) | refine Fork.ndec (fun h => ?_) (fun h => ?_) | refine Fork.mk (fun h => ?_) (fun h => ?_)) | refine MvQ.stay ?_ | refine Owe.mk ?_ ?_)
    · simp only [Int.toNat_natCast, pair_eq, Bool.not_eq_true', decide_eq_false_iff_not] at h
      (refine RetQ.plain (Nat.le_refl _) (by first | exact .inr rfl | exact .inl rfl) rfl (by (simp only [cloL, clo, cloC, cloCs, and_self])) ?_; (repeat' first | exact True.intro | exact VEq.refl _ | exact EEq.same _ | exact CEq.refl _ | exact VEq.int rfl | apply VEq.tru | apply VEq.fls | apply VEq.bool | apply VEq.int | exact VEq.nill rfl | exact VEq.zl rfl | exact VEq.nil | exact VEq.li_1 | exact VEq.li_2 | exact VEq.li_3 | exact VEq.li_4 | exact VEq.lp_1 | exact VEq.lp_2 | exact VEq.lp_3 | exact VEq.lp_4 | exact VEq.lt_1 | exact VEq.lt_2 | exact VEq.lt_3 | apply VEq.ms | apply VEq.sll | apply VEq.aggs | apply EEq.boxs | apply EEq.app1 | apply EEq.app2 | apply EEq.app3 | apply CEq.ms | apply CEq.int | apply CEq.sll | exact CEq.nill rfl | apply And.intro | exact rfl)); simp only [decide_eq_false_iff_not]; intro he; subst he; exact h rfl
    · simp only [Int.toNat_natCast, pair_eq, Bool.not_eq_false', decide_eq_true_eq] at h
      refine again0 (k + 1) ⟨by omega, fun i hi => ?_⟩ (by omega) (by (repeat' first | exact True.intro | exact VEq.refl _ | exact EEq.same _ | exact CEq.refl _ | exact VEq.int rfl | apply VEq.tru | apply VEq.fls | apply VEq.bool | apply VEq.int | exact VEq.nill rfl | exact VEq.zl rfl | exact VEq.nil | exact VEq.li_1 | exact VEq.li_2 | exact VEq.li_3 | exact VEq.li_4 | exact VEq.lp_1 | exact VEq.lp_2 | exact VEq.lp_3 | exact VEq.lp_4 | exact VEq.lt_1 | exact VEq.lt_2 | exact VEq.lt_3 | apply VEq.ms | apply VEq.sll | apply VEq.aggs | apply EEq.boxs | apply EEq.app1 | apply EEq.app2 | apply EEq.app3 | apply CEq.ms | apply CEq.int | apply CEq.sll | exact CEq.nill rfl | apply And.intro | exact rfl))
      rcases Nat.lt_succ_iff_lt_or_eq.1 hi with h3 | rfl
      · exact hk.2 i h3
      · exact h
    · (refine RetQ.plain (Nat.le_refl _) (by first | exact .inr rfl | exact .inl rfl) rfl (by (simp only [cloL, clo, cloC, cloCs, and_self])) ?_; (repeat' first | exact True.intro | exact VEq.refl _ | exact EEq.same _ | exact CEq.refl _ | exact VEq.int rfl | apply VEq.tru | apply VEq.fls | apply VEq.bool | apply VEq.int | exact VEq.nill rfl | exact VEq.zl rfl | exact VEq.nil | exact VEq.li_1 | exact VEq.li_2 | exact VEq.li_3 | exact VEq.li_4 | exact VEq.lp_1 | exact VEq.lp_2 | exact VEq.lp_3 | exact VEq.lp_4 | exact VEq.lt_1 | exact VEq.lt_2 | exact VEq.lt_3 | apply VEq.ms | apply VEq.sll | apply VEq.aggs | apply EEq.boxs | apply EEq.app1 | apply EEq.app2 | apply EEq.app3 | apply CEq.ms | apply CEq.int | apply CEq.sll | exact CEq.nill rfl | apply And.intro | exact rfl)); simp only [decide_eq_true_eq]; exact ext_getD (0, 0) hlm fun i hi => hk.2 i (by omega)
abbrev gcdI (a b : Int) : Int := Int.gcd a b
theorem gcd_step (a b : Int) : Int.gcd b (a.tmod b) = Int.gcd a b := by
  simp only [Int.gcd, Int.natAbs_tmod]
  rw [Nat.gcd_comm, ← Nat.gcd_rec, Nat.gcd_comm]
theorem gcd_zero (a : Int) : gcdI a 0 = max a (-a) := by
  simp only [gcdI, Int.gcd, Int.natAbs_zero, Nat.gcd_zero_right]; omega
theorem tmod_abs {a b : Int} (hb : b ≠ 0) : (a.tmod b).natAbs < b.natAbs := by
  rw [Int.natAbs_tmod]; exact Nat.mod_lt _ (by omega)
theorem C143 {a b : Int} : (Md a ∧ Md b) → PFD Try.prog 143 [vi .i64 a, vi .i64 b] (vi .i64 (gcdI a b)) := fun hab => by
  refine PFD.of (vs := [_]) fn143 rfl (by (simp only [cloL, clo, cloC, cloCs, and_self])) ?_
  (repeat' first | (refine Owe.mk ?_ ?_; (· (first | trivial | omega | ((try simp only [R64, true_and, and_true, Int.toNat_natCast, List.length_cons, List.length_nil]); omega)))) | (refine Fork.same ?_; first | refine Fork.dec (fun h => ?_) (fun h => ?_) | refine Fork.ndec (fun h => ?_) (fun h => ?_) | refine Fork.mk (fun h => ?_) (fun h => ?_)) | refine MvQ.stay ?_ | refine Owe.mk ?_ ?_)
  refine Sat.lp0 (fun p : Int × Int => [(0, vi .i64 p.1), (1, vi .i64 p.2)]) (fun p => (Md p.1 ∧ Md p.2) ∧ Int.gcd p.1 p.2 = Int.gcd a b) (fun p => p.2.natAbs) (a, b) ⟨hab, rfl⟩ (by (repeat' first | exact True.intro | exact VEq.refl _ | exact EEq.same _ | exact CEq.refl _ | exact VEq.int rfl | apply VEq.tru | apply VEq.fls | apply VEq.bool | apply VEq.int | exact VEq.nill rfl | exact VEq.zl rfl | exact VEq.nil | exact VEq.li_1 | exact VEq.li_2 | exact VEq.li_3 | exact VEq.li_4 | exact VEq.lp_1 | exact VEq.lp_2 | exact VEq.lp_3 | exact VEq.lp_4 | exact VEq.lt_1 | exact VEq.lt_2 | exact VEq.lt_3 | apply VEq.ms | apply VEq.sll | apply VEq.aggs | apply EEq.boxs | apply EEq.app1 | apply EEq.app2 | apply EEq.app3 | apply CEq.ms | apply CEq.int | apply CEq.sll | exact CEq.nill rfl | apply And.intro | exact rfl)) ?_
  rintro ⟨x, y⟩ ⟨hm, hg⟩
  (repeat' first | (refine Owe.mk ?_ ?_; (· (first | trivial | omega | ((try simp only [R64, true_and, and_true, Int.toNat_natCast, List.length_cons, List.length_nil]); omega)))) | (refine Fork.same ?_; first | refine Fork.dec (fun h => ?_) (fun h => ?_) | refine Fork.ndec (fun h => ?_) (fun h => ?_) | refine Fork.mk (fun h => ?_) (fun h => ?_)) | refine MvQ.stay ?_ | refine Owe.mk ?_ ?_)
  · have h1 := tmod_abs (a := x) h
    refine again0 (y, x.tmod y) ⟨⟨hm.2, by have := hm.2; simp only [Md] at *; omega⟩, by rw [gcd_step]; exact hg⟩ h1 (by (repeat' first | exact True.intro | exact VEq.refl _ | exact EEq.same _ | exact CEq.refl _ | exact VEq.int rfl | apply VEq.tru | apply VEq.fls | apply VEq.bool | apply VEq.int | exact VEq.nill rfl | exact VEq.zl rfl | exact VEq.nil | exact VEq.li_1 | exact VEq.li_2 | exact VEq.li_3 | exact VEq.li_4 | exact VEq.lp_1 | exact VEq.lp_2 | exact VEq.lp_3 | exact VEq.lp_4 | exact VEq.lt_1 | exact VEq.lt_2 | exact VEq.lt_3 | apply VEq.ms | apply VEq.sll | apply VEq.aggs | apply EEq.boxs | apply EEq.app1 | apply EEq.app2 | apply EEq.app3 | apply CEq.ms | apply CEq.int | apply CEq.sll | exact CEq.nill rfl | apply And.intro | exact rfl))
  · (refine RetQ.plain (Nat.le_refl _) (by first | exact .inr rfl | exact .inl rfl) rfl (by (simp only [cloL, clo, cloC, cloCs, and_self])) ?_; (repeat' first | exact True.intro | exact VEq.refl _ | exact EEq.same _ | exact CEq.refl _ | exact VEq.int rfl | apply VEq.tru | apply VEq.fls | apply VEq.bool | apply VEq.int | exact VEq.nill rfl | exact VEq.zl rfl | exact VEq.nil | exact VEq.li_1 | exact VEq.li_2 | exact VEq.li_3 | exact VEq.li_4 | exact VEq.lp_1 | exact VEq.lp_2 | exact VEq.lp_3 | exact VEq.lp_4 | exact VEq.lt_1 | exact VEq.lt_2 | exact VEq.lt_3 | apply VEq.ms | apply VEq.sll | apply VEq.aggs | apply EEq.boxs | apply EEq.app1 | apply EEq.app2 | apply EEq.app3 | apply CEq.ms | apply CEq.int | apply CEq.sll | exact CEq.nill rfl | apply And.intro | exact rfl))
    have h : y = 0 := h
    subst h
    exact (gcd_zero x).symm.trans (by simp only [gcdI]; rw [← hg])
/-- A fraction in lowest terms, of a number above 0. -/
abbrev frac (n d : Int) : Int × Int := (n.tdiv (gcdI n d), d.tdiv (gcdI n d))
theorem gcd_pos {n d : Int} (hd : 0 < d) : 0 < gcdI n d := by
  have : 0 < Int.gcd n d := Int.gcd_pos_of_ne_zero_right _ (by omega)
  simp only [gcdI]; omega
theorem C117 {n d : Int} : (Md n ∧ Md d ∧ 0 < d) → PFD Try.prog 117 [vi .i64 n, vi .i64 d] (.agg [int (frac n d).1, int (frac n d).2]) := fun ⟨hn, hd, h0⟩ => by
  have h1 := gcd_pos (n := n) h0
  have h2 := tdiv_bd (b := gcdI n d) hn
  have h3 := tdiv_bd (b := gcdI n d) hd
  refine PFD.of (vs := [_]) fn117 rfl (by (simp only [cloL, clo, cloC, cloCs, and_self])) ?_
  (repeat' first | (refine Owe.mk ?_ ?_; (· (first | trivial | omega | ((try simp only [R64, true_and, and_true, Int.toNat_natCast, List.length_cons, List.length_nil]); omega)))) | (refine Fork.same ?_; first | refine Fork.dec (fun h => ?_) (fun h => ?_) | refine Fork.ndec (fun h => ?_) (fun h => ?_) | refine Fork.mk (fun h => ?_) (fun h => ?_)) | (refine OpsL.same ?_; first | refine Ops.pc rfl (Fits.eq rfl) C143 rfl ?_ | (refine Ops.pcp rfl (Fits.eq rfl) C143 rfl ?_ ?_; (· (first | trivial | omega | ((try simp only [R64, true_and, and_true, Int.toNat_natCast, List.length_cons, List.length_nil]); omega)))) | refine Ops.pc rfl (Fits.veq (by (repeat' first | exact True.intro | exact VEq.refl _ | exact EEq.same _ | exact CEq.refl _ | exact VEq.int rfl | apply VEq.tru | apply VEq.fls | apply VEq.bool | apply VEq.int | exact VEq.nill rfl | exact VEq.zl rfl | exact VEq.nil | exact VEq.li_1 | exact VEq.li_2 | exact VEq.li_3 | exact VEq.li_4 | exact VEq.lp_1 | exact VEq.lp_2 | exact VEq.lp_3 | exact VEq.lp_4 | exact VEq.lt_1 | exact VEq.lt_2 | exact VEq.lt_3 | apply VEq.ms | apply VEq.sll | apply VEq.aggs | apply EEq.boxs | apply EEq.app1 | apply EEq.app2 | apply EEq.app3 | apply CEq.ms | apply CEq.int | apply CEq.sll | exact CEq.nill rfl | apply And.intro | exact rfl))) C143 rfl ?_ | (refine Ops.pcp rfl (Fits.veq (by (repeat' first | exact True.intro | exact VEq.refl _ | exact EEq.same _ | exact CEq.refl _ | exact VEq.int rfl | apply VEq.tru | apply VEq.fls | apply VEq.bool | apply VEq.int | exact VEq.nill rfl | exact VEq.zl rfl | exact VEq.nil | exact VEq.li_1 | exact VEq.li_2 | exact VEq.li_3 | exact VEq.li_4 | exact VEq.lp_1 | exact VEq.lp_2 | exact VEq.lp_3 | exact VEq.lp_4 | exact VEq.lt_1 | exact VEq.lt_2 | exact VEq.lt_3 | apply VEq.ms | apply VEq.sll | apply VEq.aggs | apply EEq.boxs | apply EEq.app1 | apply EEq.app2 | apply EEq.app3 | apply CEq.ms | apply CEq.int | apply CEq.sll | exact CEq.nill rfl | apply And.intro | exact rfl))) C143 rfl ?_ ?_; (· (first | trivial | omega | ((try simp only [R64, true_and, and_true, Int.toNat_natCast, List.length_cons, List.length_nil]); omega)))) ) | (refine OpsDL.same ?_; first | refine OpsD.pc rfl (Fits.eq rfl) C143 rfl ?_ | (refine OpsD.pcp rfl (Fits.eq rfl) C143 rfl ?_ ?_; (· (first | trivial | omega | ((try simp only [R64, true_and, and_true, Int.toNat_natCast, List.length_cons, List.length_nil]); omega)))) | refine OpsD.pc rfl (Fits.veq (by (repeat' first | exact True.intro | exact VEq.refl _ | exact EEq.same _ | exact CEq.refl _ | exact VEq.int rfl | apply VEq.tru | apply VEq.fls | apply VEq.bool | apply VEq.int | exact VEq.nill rfl | exact VEq.zl rfl | exact VEq.nil | exact VEq.li_1 | exact VEq.li_2 | exact VEq.li_3 | exact VEq.li_4 | exact VEq.lp_1 | exact VEq.lp_2 | exact VEq.lp_3 | exact VEq.lp_4 | exact VEq.lt_1 | exact VEq.lt_2 | exact VEq.lt_3 | apply VEq.ms | apply VEq.sll | apply VEq.aggs | apply EEq.boxs | apply EEq.app1 | apply EEq.app2 | apply EEq.app3 | apply CEq.ms | apply CEq.int | apply CEq.sll | exact CEq.nill rfl | apply And.intro | exact rfl))) C143 rfl ?_ | (refine OpsD.pcp rfl (Fits.veq (by (repeat' first | exact True.intro | exact VEq.refl _ | exact EEq.same _ | exact CEq.refl _ | exact VEq.int rfl | apply VEq.tru | apply VEq.fls | apply VEq.bool | apply VEq.int | exact VEq.nill rfl | exact VEq.zl rfl | exact VEq.nil | exact VEq.li_1 | exact VEq.li_2 | exact VEq.li_3 | exact VEq.li_4 | exact VEq.lp_1 | exact VEq.lp_2 | exact VEq.lp_3 | exact VEq.lp_4 | exact VEq.lt_1 | exact VEq.lt_2 | exact VEq.lt_3 | apply VEq.ms | apply VEq.sll | apply VEq.aggs | apply EEq.boxs | apply EEq.app1 | apply EEq.app2 | apply EEq.app3 | apply CEq.ms | apply CEq.int | apply CEq.sll | exact CEq.nill rfl | apply And.intro | exact rfl))) C143 rfl ?_ ?_; (· (first | trivial | omega | ((try simp only [R64, true_and, and_true, Int.toNat_natCast, List.length_cons, List.length_nil]); omega)))) ) | refine MvQ.stay ?_ | refine Owe.mk ?_ ?_)
  (refine RetQ.plain (Nat.le_refl _) (by first | exact .inr rfl | exact .inl rfl) rfl (by (simp only [cloL, clo, cloC, cloCs, and_self])) ?_; (repeat' first | exact True.intro | exact VEq.refl _ | exact EEq.same _ | exact CEq.refl _ | exact VEq.int rfl | apply VEq.tru | apply VEq.fls | apply VEq.bool | apply VEq.int | exact VEq.nill rfl | exact VEq.zl rfl | exact VEq.nil | exact VEq.li_1 | exact VEq.li_2 | exact VEq.li_3 | exact VEq.li_4 | exact VEq.lp_1 | exact VEq.lp_2 | exact VEq.lp_3 | exact VEq.lp_4 | exact VEq.lt_1 | exact VEq.lt_2 | exact VEq.lt_3 | apply VEq.ms | apply VEq.sll | apply VEq.aggs | apply EEq.boxs | apply EEq.app1 | apply EEq.app2 | apply EEq.app3 | apply CEq.ms | apply CEq.int | apply CEq.sll | exact CEq.nill rfl | apply And.intro | exact rfl))
end Go.Pw

set_option linter.unusedSimpArgs false
namespace Go.Pw
open Go Go.Proofs
/-- The root, bit by bit: k bits are left. -/
def rt : Nat → Int → Int → Int
  | 0, r, _ => r
  | k + 1, r, n => if (r + 2 ^ k) * (r + 2 ^ k) ≤ n then rt k (r + 2 ^ k) n else rt k r n
theorem rt_spec (n : Int) : ∀ (k : Nat) (r : Int), 0 ≤ r → r * r ≤ n → n < (r + 2 ^ k) * (r + 2 ^ k) → 0 ≤ rt k r n ∧ rt k r n * rt k r n ≤ n ∧ n < (rt k r n + 1) * (rt k r n + 1)
  | 0, r, h0, h1, h2 => ⟨h0, h1, by simpa [rt] using h2⟩
  | k + 1, r, h0, h1, h2 => by
    have hp : (0 : Int) < 2 ^ k := Int.pow_pos (by omega)
    have e : (2 : Int) ^ (k + 1) = 2 ^ k + 2 ^ k := by rw [Int.pow_succ]; omega
    rw [rt]
    split
    · rename_i h
      refine rt_spec n k _ (by omega) h ?_
      rw [Int.add_assoc, ← e]; exact h2
    · rename_i h
      exact rt_spec n k r h0 h1 (by omega)
theorem root_uniq {n r s : Int} (hr : 0 ≤ r) (h1 : r * r ≤ n) (h2 : n < (r + 1) * (r + 1)) (hs : 0 ≤ s) (h3 : s * s ≤ n) (h4 : n < (s + 1) * (s + 1)) : r = s := by
  rcases Int.lt_trichotomy r s with h | h | h
  · have := Int.mul_le_mul (show r + 1 ≤ s by omega) (show r + 1 ≤ s by omega) (by omega) hs; omega
  · exact h
  · have := Int.mul_le_mul (show s + 1 ≤ r by omega) (show s + 1 ≤ r by omega) (by omega) hr; omega
/-- The root of a number from 0 to 2^60, rounded down. -/
def isq (n : Int) : Int := rt 31 0 n
theorem isq_spec {n : Int} (h : 0 ≤ n ∧ n ≤ 1152921504606846976) : 0 ≤ isq n ∧ isq n * isq n ≤ n ∧ n < (isq n + 1) * (isq n + 1) :=
  rt_spec n 31 0 (by omega) (by omega) (by omega)
theorem rt32 {n : Int} (h : 0 ≤ n ∧ n ≤ 1152921504606846976) : rt 32 0 n = isq n := by
  obtain ⟨a1, a2, a3⟩ := isq_spec h
  obtain ⟨b1, b2, b3⟩ := rt_spec n 32 0 (by omega) (by omega) (by omega)
  exact root_uniq b1 b2 b3 a1 a2 a3
def bitI : Nat → Int
  | 0 => 0
  | k + 1 => 2 ^ k
theorem bitI_half' (k : Nat) : (bitI (k + 1)).fdiv 2 = bitI k := by
  cases k with
  | zero => rfl
  | succ k => simp only [bitI]; rw [Int.pow_succ]; exact Int.mul_fdiv_cancel _ (by omega)
theorem two_le (k m : Nat) (h : k ≤ m) : (2 : Int) ^ k ≤ 2 ^ m := by
  have := Nat.pow_le_pow_right (show 0 < 2 by omega) h
  exact_mod_cast this
theorem isq_le {n : Int} (h : 0 ≤ n ∧ n ≤ 1152921504606846976) : isq n ≤ 1073741824 := by
  obtain ⟨a1, a2, a3⟩ := isq_spec h
  rcases Int.lt_or_le 1073741824 (isq n) with h1 | h1
  · have := Int.mul_le_mul (show 1073741825 ≤ isq n by omega) (show 1073741825 ≤ isq n by omega) (by omega) a1; omega
  · exact h1
theorem or_bit {r : Int} {k : Nat} (hk : k ≤ 31) (hr : 0 ≤ r ∧ r < 4294967296) (hd : ∃ q : Int, r = 2 ^ (k + 1) * q) :
    IntKind.i64.wrap ((BitVec.ofInt IntKind.i64.bits r ||| BitVec.ofInt IntKind.i64.bits (2 ^ k)).toNat : Nat) = r + 2 ^ k := by
  obtain ⟨q, hq⟩ := hd
  obtain ⟨r', rfl⟩ := Int.eq_ofNat_of_zero_le hr.1
  have hp : (0 : Int) < 2 ^ (k + 1) := Int.pow_pos (by omega)
  have hq0 : 0 ≤ q := by
    rcases Int.lt_or_le q 0 with h | h
    · have := Int.mul_le_mul_of_nonneg_left (show q ≤ -1 by omega) (show (0 : Int) ≤ 2 ^ (k + 1) by omega); omega
    · exact h
  obtain ⟨q', rfl⟩ := Int.eq_ofNat_of_zero_le hq0
  have hq' : r' = 2 ^ (k + 1) * q' := by exact_mod_cast hq
  have hk2 : 2 ^ k ≤ 2147483648 := Nat.pow_le_pow_right (show 0 < 2 by omega) hk
  have hb : ((2 ^ IntKind.i64.bits : Nat) : Int) = 18446744073709551616 := by decide
  have e1 : (BitVec.ofInt IntKind.i64.bits (r' : Int)).toNat = r' := by
    rw [BitVec.toNat_ofInt, hb]; omega
  have e2 : (BitVec.ofInt IntKind.i64.bits (2 ^ k)).toNat = 2 ^ k := by
    rw [show ((2 : Int) ^ k) = ((2 ^ k : Nat) : Int) by norm_cast, BitVec.toNat_ofInt, hb]
    generalize 2 ^ k = m at hk2 ⊢
    omega
  rw [BitVec.toNat_or, e1, e2, hq', ← Nat.two_pow_add_eq_or_of_lt (Nat.pow_lt_pow_right (by omega) (by omega)), ← hq']
  have : ((r' + 2 ^ k : Nat) : Int) = (r' : Int) + 2 ^ k := by norm_cast
  rw [this]
  refine wrap64_id ⟨?_, ?_⟩
  · have : (0 : Int) < 2 ^ k := Int.pow_pos (by omega)
    omega
  · have h : ((2 ^ k : Nat) : Int) ≤ 2147483648 := by omega
    rw [Int.natCast_pow] at h
    have h2 : (2 : Int) ^ k ≤ 2147483648 := h
    omega
theorem C146 {n : Int} : (0 ≤ n ∧ n ≤ 1152921504606846976) → PFD Try.prog 146 [vi .i64 n] (vi .i64 (isq n)) := fun hn => by
  refine PFD.of (vs := [_]) fn146 rfl (by (simp only [cloL, clo, cloC, cloCs, and_self])) ?_
  (repeat' first | (refine Owe.mk ?_ ?_; (· (first | trivial | omega | ((try simp only [R64, true_and, and_true, Int.toNat_natCast, List.length_cons, List.length_nil]); omega)))) | (refine Fork.same ?_; first | refine Fork.dec (fun h => ?_) (fun h => ?_) | refine Fork.ndec (fun h => ?_) (fun h => ?_) | refine Fork.mk (fun h => ?_) (fun h => ?_)) | refine MvQ.stay ?_ | refine Owe.mk ?_ ?_)
  refine Sat.lp0 (fun p : Nat × Int => [(0, vi .i64 n), (3, vi .i64 p.2), (4, vi .i64 (bitI p.1))]) (fun p => p.1 ≤ 32 ∧ 0 ≤ p.2 ∧ p.2 * p.2 ≤ n ∧ (p.2 + 2 ^ p.1 ≤ 4294967296 ∧ ∃ q : Int, p.2 = 2 ^ p.1 * q) ∧ isq n = rt p.1 p.2 n) (fun p => p.1) (32, 0) ⟨Nat.le_refl _, Int.le_refl _, by omega, ⟨by decide, 0, rfl⟩, (rt32 hn).symm⟩ (by (repeat' first | exact True.intro | exact VEq.refl _ | exact EEq.same _ | exact CEq.refl _ | exact VEq.int rfl | apply VEq.tru | apply VEq.fls | apply VEq.bool | apply VEq.int | exact VEq.nill rfl | exact VEq.zl rfl | exact VEq.nil | exact VEq.li_1 | exact VEq.li_2 | exact VEq.li_3 | exact VEq.li_4 | exact VEq.lp_1 | exact VEq.lp_2 | exact VEq.lp_3 | exact VEq.lp_4 | exact VEq.lt_1 | exact VEq.lt_2 | exact VEq.lt_3 | apply VEq.ms | apply VEq.sll | apply VEq.aggs | apply EEq.boxs | apply EEq.app1 | apply EEq.app2 | apply EEq.app3 | apply CEq.ms | apply CEq.int | apply CEq.sll | exact CEq.nill rfl | apply And.intro | exact rfl)) ?_
  rintro ⟨k, r⟩ ⟨hk, hr, hrn, ⟨hb, hd⟩, he⟩
  simp only at hk hr hrn hb hd he
  cases k with
  | zero =>
    refine Fork.dec (fun h => absurd h (by simp [bitI])) (fun h => ?_)
    (repeat' first | (refine Owe.mk ?_ ?_; (· (first | trivial | omega | ((try simp only [R64, true_and, and_true, Int.toNat_natCast, List.length_cons, List.length_nil]); omega)))) | (refine Fork.same ?_; first | refine Fork.dec (fun h => ?_) (fun h => ?_) | refine Fork.ndec (fun h => ?_) (fun h => ?_) | refine Fork.mk (fun h => ?_) (fun h => ?_)) | refine MvQ.stay ?_ | refine Owe.mk ?_ ?_)
    (refine RetQ.plain (Nat.le_refl _) (by first | exact .inr rfl | exact .inl rfl) rfl (by (simp only [cloL, clo, cloC, cloCs, and_self])) ?_; (repeat' first | exact True.intro | exact VEq.refl _ | exact EEq.same _ | exact CEq.refl _ | exact VEq.int rfl | apply VEq.tru | apply VEq.fls | apply VEq.bool | apply VEq.int | exact VEq.nill rfl | exact VEq.zl rfl | exact VEq.nil | exact VEq.li_1 | exact VEq.li_2 | exact VEq.li_3 | exact VEq.li_4 | exact VEq.lp_1 | exact VEq.lp_2 | exact VEq.lp_3 | exact VEq.lp_4 | exact VEq.lt_1 | exact VEq.lt_2 | exact VEq.lt_3 | apply VEq.ms | apply VEq.sll | apply VEq.aggs | apply EEq.boxs | apply EEq.app1 | apply EEq.app2 | apply EEq.app3 | apply CEq.ms | apply CEq.int | apply CEq.sll | exact CEq.nill rfl | apply And.intro | exact rfl)); rw [he]; rfl
  | succ k =>
    have hp : (0 : Int) < 2 ^ k := Int.pow_pos (by omega)
    have e : (2 : Int) ^ (k + 1) = 2 ^ k + 2 ^ k := by rw [Int.pow_succ]; omega
    have e1 : bitI (k + 1) = 2 ^ k := rfl
    have hr1 : r ≤ 1073741824 := by
      rcases Int.lt_or_le 1073741824 r with h1 | h1
      · have := Int.mul_le_mul (show 1073741825 ≤ r by omega) (show 1073741825 ≤ r by omega) (by omega) hr; omega
      · exact h1
    have hk2 := two_le k 31 (by omega)
    have hor := or_bit (r := r) (k := k) (by omega) ⟨hr, by omega⟩ hd
    have hr2 : r + 2 ^ k ≤ 3037000499 := by
      rcases Nat.lt_or_ge k 31 with h | h
      · have := two_le k 30 (by omega); omega
      · have hk31 : k = 31 := by omega
        subst hk31
        obtain ⟨q, hq⟩ := hd
        omega
    have hm := mbd (A := 3037000499) (B := 3037000499) (a := r + 2 ^ k) (b := r + 2 ^ k) (by omega) (by omega)
    have hh : (2 ^ k : Int).fdiv (2 ^ min (Int.toNat 1) IntKind.i64.bits) = bitI k := bitI_half' k
    simp only [e1] at *
    refine Fork.dec (fun h => ?_) (fun h => absurd hp h)
    refine Owe.mk ?_ ?_
    · simp only [hor, R64]; omega
    (repeat' first | (refine Owe.mk ?_ ?_; (· (first | trivial | omega | ((try simp only [R64, true_and, and_true, Int.toNat_natCast, List.length_cons, List.length_nil]); omega)))) | (refine Fork.same ?_; first | refine Fork.dec (fun h => ?_) (fun h => ?_) | refine Fork.ndec (fun h => ?_) (fun h => ?_) | refine Fork.mk (fun h => ?_) (fun h => ?_)) | refine MvQ.stay ?_ | refine Owe.mk ?_ ?_)
    · rw [hor] at h
      refine again0 (k, r + 2 ^ k) ⟨by simp only; omega, by simp only; omega, h, ⟨by simp only; omega, ?_⟩, ?_⟩ (by simp) (by (repeat' first | exact True.intro | exact VEq.refl _ | exact EEq.same _ | exact CEq.refl _ | exact VEq.int rfl | apply VEq.tru | apply VEq.fls | apply VEq.bool | apply VEq.int | exact VEq.nill rfl | exact VEq.zl rfl | exact VEq.nil | exact VEq.li_1 | exact VEq.li_2 | exact VEq.li_3 | exact VEq.li_4 | exact VEq.lp_1 | exact VEq.lp_2 | exact VEq.lp_3 | exact VEq.lp_4 | exact VEq.lt_1 | exact VEq.lt_2 | exact VEq.lt_3 | apply VEq.ms | apply VEq.sll | apply VEq.aggs | apply EEq.boxs | apply EEq.app1 | apply EEq.app2 | apply EEq.app3 | apply CEq.ms | apply CEq.int | apply CEq.sll | exact CEq.nill rfl | apply And.intro | exact rfl) <;> first | exact hor | exact hh)
      · obtain ⟨q, hq⟩ := hd
        exact ⟨2 * q + 1, by simp only; rw [Int.mul_add, ← Int.mul_assoc, ← Int.pow_succ, ← hq, Int.mul_one]⟩
      · rw [he, rt, if_pos h]
    · rw [hor] at h
      refine again0 (k, r) ⟨by simp only; omega, by simp only; omega, hrn, ⟨by simp only; omega, ?_⟩, ?_⟩ (by simp) (by (repeat' first | exact True.intro | exact VEq.refl _ | exact EEq.same _ | exact CEq.refl _ | exact VEq.int rfl | apply VEq.tru | apply VEq.fls | apply VEq.bool | apply VEq.int | exact VEq.nill rfl | exact VEq.zl rfl | exact VEq.nil | exact VEq.li_1 | exact VEq.li_2 | exact VEq.li_3 | exact VEq.li_4 | exact VEq.lp_1 | exact VEq.lp_2 | exact VEq.lp_3 | exact VEq.lp_4 | exact VEq.lt_1 | exact VEq.lt_2 | exact VEq.lt_3 | apply VEq.ms | apply VEq.sll | apply VEq.aggs | apply EEq.boxs | apply EEq.app1 | apply EEq.app2 | apply EEq.app3 | apply CEq.ms | apply CEq.int | apply CEq.sll | exact CEq.nill rfl | apply And.intro | exact rfl); exact hh)
      · obtain ⟨q, hq⟩ := hd
        exact ⟨2 * q, by simp only; rw [← Int.mul_assoc, ← Int.pow_succ]; exact hq⟩
      · rw [he, rt, if_neg h]
end Go.Pw

set_option linter.unusedSimpArgs false
namespace Go.Pw
open Go Go.Proofs
theorem u64_wrap (n : Int) : IntKind.u64.wrap n = n % 18446744073709551616 := rfl
theorem and_mask {n : Int} (h : 0 ≤ n ∧ n < 18446744073709551616) : IntKind.u64.wrap ((BitVec.ofInt IntKind.u64.bits n &&& BitVec.ofInt IntKind.u64.bits 4294967295).toNat : Nat) = n % 4294967296 := by
  obtain ⟨m, rfl⟩ := Int.eq_ofNat_of_zero_le h.1
  have hb : ((2 ^ IntKind.u64.bits : Nat) : Int) = 18446744073709551616 := by decide
  have e1 : (BitVec.ofInt IntKind.u64.bits (m : Int)).toNat = m := by rw [BitVec.toNat_ofInt, hb]; omega
  have e2 : (BitVec.ofInt IntKind.u64.bits 4294967295).toNat = 2 ^ 32 - 1 := by decide
  rw [BitVec.toNat_and, e1, e2, Nat.and_two_pow_sub_one_eq_mod, u64_wrap]
  omega
theorem and_mask2 (a : Int) : ((BitVec.ofInt IntKind.u64.bits (a % 18446744073709551616) &&& BitVec.ofInt IntKind.u64.bits 4294967295).toNat : Int) % 18446744073709551616 = a % 18446744073709551616 % 4294967296 := by
  rw [← u64_wrap, and_mask ⟨by omega, by omega⟩]
theorem shr32 {n : Int} : n.fdiv (2 ^ min (Int.toNat 32) IntKind.u64.bits) = n / 4294967296 := by
  show n.fdiv 4294967296 = _
  rw [Int.fdiv_eq_ediv_of_nonneg _ (by omega)]
abbrev U64 (n : Int) : Prop := 0 ≤ n ∧ n < 18446744073709551616
theorem split32 {x y : Int} (hx : U64 x) (hy : U64 y) :
    x * y = (x / 4294967296 * (y / 4294967296)) * 18446744073709551616 + (x / 4294967296 * (y % 4294967296) + x % 4294967296 * (y / 4294967296)) * 4294967296 + x % 4294967296 * (y % 4294967296) ∧
    (0 ≤ x / 4294967296 * (y / 4294967296) ∧ x / 4294967296 * (y / 4294967296) ≤ 4294967295 * 4294967295) ∧ (0 ≤ x / 4294967296 * (y % 4294967296) ∧ x / 4294967296 * (y % 4294967296) ≤ 4294967295 * 4294967295) ∧
    (0 ≤ x % 4294967296 * (y / 4294967296) ∧ x % 4294967296 * (y / 4294967296) ≤ 4294967295 * 4294967295) ∧ (0 ≤ x % 4294967296 * (y % 4294967296) ∧ x % 4294967296 * (y % 4294967296) ≤ 4294967295 * 4294967295) := by
  have hx1 : 0 ≤ x / 4294967296 ∧ x / 4294967296 ≤ 4294967295 := by have := hx.1; have := hx.2; omega
  have hy1 : 0 ≤ y / 4294967296 ∧ y / 4294967296 ≤ 4294967295 := by have := hy.1; have := hy.2; omega
  have hx0 : 0 ≤ x % 4294967296 ∧ x % 4294967296 ≤ 4294967295 := by omega
  have hy0 : 0 ≤ y % 4294967296 ∧ y % 4294967296 ≤ 4294967295 := by omega
  have key : ∀ a b : Int, (0 ≤ a ∧ a ≤ 4294967295) → (0 ≤ b ∧ b ≤ 4294967295) → 0 ≤ a * b ∧ a * b ≤ 4294967295 * 4294967295 := fun a b ha hb =>
    ⟨Int.mul_nonneg ha.1 hb.1, Int.mul_le_mul ha.2 hb.2 hb.1 (by omega)⟩
  refine ⟨?_, key _ _ hx1 hy1, key _ _ hx1 hy0, key _ _ hx0 hy1, key _ _ hx0 hy0⟩
  have e1 : x = x / 4294967296 * 4294967296 + x % 4294967296 := by omega
  have e2 : y = y / 4294967296 * 4294967296 + y % 4294967296 := by omega
  generalize x / 4294967296 = a at *
  generalize x % 4294967296 = b at *
  generalize y / 4294967296 = c at *
  generalize y % 4294967296 = d at *
  subst e1; subst e2
  simp only [Int.add_mul, Int.mul_add]
  have h1 : a * 4294967296 * (c * 4294967296) = a * c * 18446744073709551616 := by rw [Int.mul_assoc, Int.mul_comm 4294967296, Int.mul_assoc, ← Int.mul_assoc a]; rfl
  have h2 : a * 4294967296 * d = a * d * 4294967296 := by rw [Int.mul_assoc, Int.mul_comm 4294967296, ← Int.mul_assoc]
  have h3 : b * (c * 4294967296) = b * c * 4294967296 := by rw [← Int.mul_assoc]
  omega
theorem C147 {x y : Int} : (U64 x ∧ U64 y) → PFD Try.prog 147 [vi .u64 x, vi .u64 y] (.tup [vi .u64 (x * y / 18446744073709551616), vi .u64 (x * y % 18446744073709551616)]) := fun ⟨hx, hy⟩ => by
  have h1 := split32 hx hy
  refine PFD.of (vs := [_, _]) fn147 rfl (by (simp only [cloL, clo, cloC, cloCs, and_self])) ?_
  (repeat' first | (refine Owe.mk ?_ ?_; (· (first | trivial | omega | ((try simp only [R64, true_and, and_true, Int.toNat_natCast, List.length_cons, List.length_nil]); omega)))) | (refine Fork.same ?_; first | refine Fork.dec (fun h => ?_) (fun h => ?_) | refine Fork.ndec (fun h => ?_) (fun h => ?_) | refine Fork.mk (fun h => ?_) (fun h => ?_)) | refine MvQ.stay ?_ | refine Owe.mk ?_ ?_)
  (refine RetQ.plain (Nat.le_refl _) (by first | exact .inr rfl | exact .inl rfl) rfl (by (simp only [cloL, clo, cloC, cloCs, and_self])) ?_; (repeat' first | exact True.intro | exact VEq.refl _ | exact EEq.same _ | exact CEq.refl _ | exact VEq.int rfl | apply VEq.tru | apply VEq.fls | apply VEq.bool | apply VEq.int | exact VEq.nill rfl | exact VEq.zl rfl | exact VEq.nil | exact VEq.li_1 | exact VEq.li_2 | exact VEq.li_3 | exact VEq.li_4 | exact VEq.lp_1 | exact VEq.lp_2 | exact VEq.lp_3 | exact VEq.lp_4 | exact VEq.lt_1 | exact VEq.lt_2 | exact VEq.lt_3 | apply VEq.ms | apply VEq.sll | apply VEq.aggs | apply EEq.boxs | apply EEq.app1 | apply EEq.app2 | apply EEq.app3 | apply CEq.ms | apply CEq.int | apply CEq.sll | exact CEq.nill rfl | apply And.intro | exact rfl))
  simp only [and_mask hx, and_mask hy, shr32, u64_wrap]
  rw [and_mask2, h1.1]
  obtain ⟨_, h2, h3, h4, h5⟩ := h1
  generalize x / 4294967296 * (y / 4294967296) = a at *
  generalize x / 4294967296 * (y % 4294967296) = b at *
  generalize x % 4294967296 * (y / 4294967296) = c at *
  generalize x % 4294967296 * (y % 4294967296) = d at *
  omega
abbrev lessQ (a b : Int × Int) : Bool := decide (a.1 * b.2 < b.1 * a.2)
theorem C120 {a b : Int × Int} : ((0 ≤ a.1 ∧ a.1 ≤ 9223372036854775807) ∧ (0 ≤ a.2 ∧ a.2 ≤ 9223372036854775807) ∧ (0 ≤ b.1 ∧ b.1 ≤ 9223372036854775807) ∧ 0 ≤ b.2 ∧ b.2 ≤ 9223372036854775807) → PFD Try.prog 120 [.agg [int a.1, int a.2], .agg [int b.1, int b.2]] (vbl (lessQ a b)) := fun hh => by
  have w : ∀ n : Int, (0 ≤ n ∧ n ≤ 9223372036854775807) → IntKind.u64.wrap n = n := fun n h => by rw [u64_wrap]; omega
  have h1 := w a.1 (by omega)
  have h2 := w a.2 (by omega)
  have h3 := w b.1 (by omega)
  have h4 := w b.2 (by omega)
  refine PFD.of (vs := [_]) fn120 rfl (by (simp only [cloL, clo, cloC, cloCs, and_self])) ?_
  (repeat' first | (refine Owe.mk ?_ ?_; (· (first | trivial | omega | ((try simp only [R64, true_and, and_true, Int.toNat_natCast, List.length_cons, List.length_nil]); omega)))) | (refine Fork.same ?_; first | refine Fork.dec (fun h => ?_) (fun h => ?_) | refine Fork.ndec (fun h => ?_) (fun h => ?_) | refine Fork.mk (fun h => ?_) (fun h => ?_)) | (refine OpsL.same ?_; first | refine Ops.pc rfl (Fits.eq rfl) C147 rfl ?_ | (refine Ops.pcp rfl (Fits.eq rfl) C147 rfl ?_ ?_; (· (first | trivial | omega | ((try simp only [R64, true_and, and_true, Int.toNat_natCast, List.length_cons, List.length_nil]); omega)))) | refine Ops.pc rfl (Fits.veq (by (repeat' first | exact True.intro | exact VEq.refl _ | exact EEq.same _ | exact CEq.refl _ | exact VEq.int rfl | apply VEq.tru | apply VEq.fls | apply VEq.bool | apply VEq.int | exact VEq.nill rfl | exact VEq.zl rfl | exact VEq.nil | exact VEq.li_1 | exact VEq.li_2 | exact VEq.li_3 | exact VEq.li_4 | exact VEq.lp_1 | exact VEq.lp_2 | exact VEq.lp_3 | exact VEq.lp_4 | exact VEq.lt_1 | exact VEq.lt_2 | exact VEq.lt_3 | apply VEq.ms | apply VEq.sll | apply VEq.aggs | apply EEq.boxs | apply EEq.app1 | apply EEq.app2 | apply EEq.app3 | apply CEq.ms | apply CEq.int | apply CEq.sll | exact CEq.nill rfl | apply And.intro | exact rfl))) C147 rfl ?_ | (refine Ops.pcp rfl (Fits.veq (by (repeat' first | exact True.intro | exact VEq.refl _ | exact EEq.same _ | exact CEq.refl _ | exact VEq.int rfl | apply VEq.tru | apply VEq.fls | apply VEq.bool | apply VEq.int | exact VEq.nill rfl | exact VEq.zl rfl | exact VEq.nil | exact VEq.li_1 | exact VEq.li_2 | exact VEq.li_3 | exact VEq.li_4 | exact VEq.lp_1 | exact VEq.lp_2 | exact VEq.lp_3 | exact VEq.lp_4 | exact VEq.lt_1 | exact VEq.lt_2 | exact VEq.lt_3 | apply VEq.ms | apply VEq.sll | apply VEq.aggs | apply EEq.boxs | apply EEq.app1 | apply EEq.app2 | apply EEq.app3 | apply CEq.ms | apply CEq.int | apply CEq.sll | exact CEq.nill rfl | apply And.intro | exact rfl))) C147 rfl ?_ ?_; (· (first | trivial | omega | ((try simp only [R64, true_and, and_true, Int.toNat_natCast, List.length_cons, List.length_nil]); omega)))) ) | (refine OpsDL.same ?_; first | refine OpsD.pc rfl (Fits.eq rfl) C147 rfl ?_ | (refine OpsD.pcp rfl (Fits.eq rfl) C147 rfl ?_ ?_; (· (first | trivial | omega | ((try simp only [R64, true_and, and_true, Int.toNat_natCast, List.length_cons, List.length_nil]); omega)))) | refine OpsD.pc rfl (Fits.veq (by (repeat' first | exact True.intro | exact VEq.refl _ | exact EEq.same _ | exact CEq.refl _ | exact VEq.int rfl | apply VEq.tru | apply VEq.fls | apply VEq.bool | apply VEq.int | exact VEq.nill rfl | exact VEq.zl rfl | exact VEq.nil | exact VEq.li_1 | exact VEq.li_2 | exact VEq.li_3 | exact VEq.li_4 | exact VEq.lp_1 | exact VEq.lp_2 | exact VEq.lp_3 | exact VEq.lp_4 | exact VEq.lt_1 | exact VEq.lt_2 | exact VEq.lt_3 | apply VEq.ms | apply VEq.sll | apply VEq.aggs | apply EEq.boxs | apply EEq.app1 | apply EEq.app2 | apply EEq.app3 | apply CEq.ms | apply CEq.int | apply CEq.sll | exact CEq.nill rfl | apply And.intro | exact rfl))) C147 rfl ?_ | (refine OpsD.pcp rfl (Fits.veq (by (repeat' first | exact True.intro | exact VEq.refl _ | exact EEq.same _ | exact CEq.refl _ | exact VEq.int rfl | apply VEq.tru | apply VEq.fls | apply VEq.bool | apply VEq.int | exact VEq.nill rfl | exact VEq.zl rfl | exact VEq.nil | exact VEq.li_1 | exact VEq.li_2 | exact VEq.li_3 | exact VEq.li_4 | exact VEq.lp_1 | exact VEq.lp_2 | exact VEq.lp_3 | exact VEq.lp_4 | exact VEq.lt_1 | exact VEq.lt_2 | exact VEq.lt_3 | apply VEq.ms | apply VEq.sll | apply VEq.aggs | apply EEq.boxs | apply EEq.app1 | apply EEq.app2 | apply EEq.app3 | apply CEq.ms | apply CEq.int | apply CEq.sll | exact CEq.nill rfl | apply And.intro | exact rfl))) C147 rfl ?_ ?_; (· (first | trivial | omega | ((try simp only [R64, true_and, and_true, Int.toNat_natCast, List.length_cons, List.length_nil]); omega)))) ) | refine MvQ.stay ?_ | refine Owe.mk ?_ ?_)

  all_goals ((refine RetQ.plain (Nat.le_refl _) (by first | exact .inr rfl | exact .inl rfl) rfl (by (simp only [cloL, clo, cloC, cloCs, and_self])) ?_; (repeat' first | exact True.intro | exact VEq.refl _ | exact EEq.same _ | exact CEq.refl _ | exact VEq.int rfl | apply VEq.tru | apply VEq.fls | apply VEq.bool | apply VEq.int | exact VEq.nill rfl | exact VEq.zl rfl | exact VEq.nil | exact VEq.li_1 | exact VEq.li_2 | exact VEq.li_3 | exact VEq.li_4 | exact VEq.lp_1 | exact VEq.lp_2 | exact VEq.lp_3 | exact VEq.lp_4 | exact VEq.lt_1 | exact VEq.lt_2 | exact VEq.lt_3 | apply VEq.ms | apply VEq.sll | apply VEq.aggs | apply EEq.boxs | apply EEq.app1 | apply EEq.app2 | apply EEq.app3 | apply CEq.ms | apply CEq.int | apply CEq.sll | exact CEq.nill rfl | apply And.intro | exact rfl)); simp only [h1, h2, h3, h4] at *; simp only [lessQ, decide_eq_true_eq, decide_eq_false_iff_not, decide_eq_decide]; omega)
end Go.Pw
