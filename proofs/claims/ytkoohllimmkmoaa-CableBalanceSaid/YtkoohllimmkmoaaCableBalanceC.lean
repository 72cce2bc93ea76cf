/- Steps toward the row of this claim: part 3 of 4. Proved as named below, on no condition but those that each theorem states. -/
import Derived.Test.YtkoohllimmkmoaaCableBalanceB
import Derived.Test.YtkoohllimmkmoaaProg
import Derived.KernelRfl
set_option linter.unusedVariables false
set_option maxHeartbeats 2000000
set_option maxRecDepth 100000
namespace Go.Pw
open Go Go.Proofs
/-- moonpool/moonpoollaw01.awake -/
def lc15 : LCode :=
  (.seq (.region [⟨some 0, .mv (.const (.bool false)), none⟩]) (.seq (.region [⟨some 11, .call (.func 85) [], none⟩, ⟨some 12, .call (.func 86) [], none⟩, ⟨some 13, .call (.func 29)
    [(.tmp 11), (.tmp 12)], none⟩, ⟨some 10, .mv (.tmp 13), none⟩, ⟨some 14, .ext (.tmp 10) 0, none⟩, ⟨some 15, .ext (.tmp 10) 1, none⟩, ⟨some 1, .mv (.tmp 14), none⟩, ⟨some 2, .mv
    (.tmp 15), none⟩]) (.seq (.region [⟨some 17, .call (.func 85) [], none⟩, ⟨some 18, .call (.func 87) [], none⟩, ⟨some 19, .call (.func 70) [(.tmp 17), (.tmp 18)], none⟩, ⟨some
    16, .mv (.tmp 19), none⟩, ⟨some 20, .ext (.tmp 16) 0, none⟩, ⟨some 21, .ext (.tmp 16) 1, none⟩, ⟨some 3, .alloc [(.int .i64 0), (.int .i64 0)], none⟩, ⟨none, .store 2 (.tmp 3)
    (.tmp 20), none⟩, ⟨some 4, .mv (.tmp 21), none⟩]) (.seq (.region [⟨some 23, .call (.func 85) [], none⟩, ⟨some 24, .call (.func 86) [], none⟩, ⟨some 25, .call (.func 59) [(.tmp
    23), (.tmp 24)], none⟩, ⟨some 22, .mv (.tmp 25), none⟩, ⟨some 26, .ext (.tmp 22) 0, none⟩, ⟨some 27, .ext (.tmp 22) 1, none⟩, ⟨some 28, .ext (.tmp 22) 2, none⟩, ⟨some 6, .alloc
    [(.int .i64 0), (.int .i64 0)], none⟩, ⟨some 5, .mv (.tmp 26), none⟩, ⟨none, .store 2 (.tmp 6) (.tmp 27), none⟩, ⟨some 7, .mv (.tmp 28), none⟩]) (.seq (.region [⟨some 30, .build
    [(.int .i64 0), (.int .i64 0)] [(0, 1, (.const (.int .i64 0))), (1, 1, (.const (.int .i64 0)))], none⟩, ⟨some 31, .build [(.int .i64 0), (.int .i64 0)] [(0, 1, (.const (.int
    .i64 4))), (1, 1, (.const (.int .i64 0)))], none⟩, ⟨some 32, .build [(.int .i64 0), (.int .i64 0)] [(0, 1, (.const (.int .i64 4))), (1, 1, (.const (.int .i64 4)))], none⟩, ⟨some
    33, .build [(.int .i64 0), (.int .i64 0)] [(0, 1, (.const (.int .i64 0))), (1, 1, (.const (.int .i64 4)))], none⟩, ⟨some 34, .lit false 23 2 [(.tmp 30), (.tmp 31), (.tmp 32),
    (.tmp 33)], none⟩, ⟨some 35, .build [(.int .i64 0), (.int .i64 0)] [(0, 1, (.const (.int .i64 1))), (1, 1, (.const (.int .i64 2)))], none⟩, ⟨some 36, .call (.func 18) [(.tmp
    34), (.tmp 35)], none⟩, ⟨some 29, .mv (.tmp 36), none⟩, ⟨some 37, .ext (.tmp 29) 0, none⟩, ⟨some 38, .ext (.tmp 29) 1, none⟩, ⟨some 8, .mv (.tmp 37), none⟩, ⟨some 9, .mv (.tmp
    38), none⟩]) (.seq (.region [⟨some 39, .mv (.tmp 2), none⟩, ⟨some 40, .bin .eql (.tmp 39) (.const (.int .i64 0)), none⟩, ⟨some 41, .mv (.tmp 40), none⟩, ⟨some 42, .mv (.tmp 1),
    some (41, true)⟩, ⟨some 43, .build [(.int .i64 0), (.int .i64 0)] [(0, 1, (.const (.int .i64 12))), (1, 1, (.const (.int .i64 120)))], some (41, true)⟩, ⟨some 44, .build [(.int
    .i64 0), (.int .i64 0)] [(0, 1, (.const (.int .i64 2))), (1, 1, (.const (.int .i64 100)))], some (41, true)⟩, ⟨some 45, .build [(.int .i64 0), (.int .i64 0)] [(0, 1, (.const
    (.int .i64 2))), (1, 1, (.const (.int .i64 100)))], some (41, true)⟩, ⟨some 46, .lit false 46 2 [(.tmp 43), (.tmp 44), (.tmp 45)], some (41, true)⟩, ⟨some 47, .call (.func 39)
    [(.tmp 42), (.tmp 46)], some (41, true)⟩, ⟨some 48, .pick (.tmp 41) (.tmp 47) (.const (.bool false)), none⟩, ⟨some 49, .mv (.tmp 48), none⟩, ⟨some 50, .mv (.tmp 4), some (49,
    true)⟩, ⟨some 51, .bin .eql (.tmp 50) (.const (.int .i64 0)), some (49, true)⟩, ⟨some 52, .pick (.tmp 49) (.tmp 51) (.const (.bool false)), none⟩, ⟨some 53, .mv (.tmp 52),
    none⟩, ⟨some 54, .load true 2 (.tmp 3), some (53, true)⟩, ⟨some 55, .build [(.int .i64 0), (.int .i64 0)] [(0, 1, (.const (.int .i64 (-2)))), (1, 1, (.const (.int .i64 4)))],
    some (53, true)⟩, ⟨some 56, .eqA false 2 (.tmp 54) (.tmp 55), some (53, true)⟩, ⟨some 57, .pick (.tmp 53) (.tmp 56) (.const (.bool false)), none⟩, ⟨some 58, .mv (.tmp 57),
    none⟩, ⟨some 59, .mv (.tmp 7), some (58, true)⟩, ⟨some 60, .bin .eql (.tmp 59) (.const (.int .i64 0)), some (58, true)⟩, ⟨some 61, .pick (.tmp 58) (.tmp 60) (.const (.bool
    false)), none⟩, ⟨some 62, .mv (.tmp 61), none⟩, ⟨some 63, .mv (.tmp 5), some (62, true)⟩, ⟨some 64, .bin .eql (.tmp 63) (.const (.int .i64 0)), some (62, true)⟩, ⟨some 65, .pick
    (.tmp 62) (.tmp 64) (.const (.bool false)), none⟩, ⟨some 66, .mv (.tmp 65), none⟩, ⟨some 67, .load true 2 (.tmp 6), some (66, true)⟩, ⟨some 68, .build [(.int .i64 0), (.int .i64
    0)] [(0, 1, (.const (.int .i64 1600))), (1, 1, (.const (.int .i64 252601)))], some (66, true)⟩, ⟨some 69, .eqA false 2 (.tmp 67) (.tmp 68), some (66, true)⟩, ⟨some 70, .pick
    (.tmp 66) (.tmp 69) (.const (.bool false)), none⟩, ⟨some 71, .mv (.tmp 70), none⟩, ⟨some 72, .mv (.tmp 9), some (71, true)⟩, ⟨some 73, .bin .eql (.tmp 72) (.const (.int .i64
    0)), some (71, true)⟩, ⟨some 74, .pick (.tmp 71) (.tmp 73) (.const (.bool false)), none⟩, ⟨some 75, .mv (.tmp 74), none⟩, ⟨some 76, .mv (.tmp 8), some (75, true)⟩, ⟨some 77,
    .bin .eql (.tmp 76) (.const (.int .i64 1)), some (75, true)⟩, ⟨some 78, .pick (.tmp 75) (.tmp 77) (.const (.bool false)), none⟩, ⟨some 0, .mv (.tmp 78), none⟩]) .ret))))))
theorem low15 : lowF Try.prog [] Try.f15 = some (79, lc15, [.tmp 0]) := by kernel_rfl
theorem fn15 : FnOk Try.prog 15 79 lc15 [.tmp 0] := ⟨Try.call15, [], _, Try.func15, low15⟩
/-- moonpool/moonpoolbase.Within -/
def lc16 : LCode :=
  (.seq (.region [⟨some 6, .mv (.const (.bool false)), none⟩]) (.seq (.region [⟨some 7, .mv (.tmp 1), none⟩, ⟨some 8, .mv (.tmp 0), none⟩, ⟨some 9, .bin .leq (.tmp 7) (.tmp 8),
    none⟩, ⟨some 10, .mv (.tmp 9), none⟩, ⟨some 11, .mv (.tmp 0), some (10, true)⟩, ⟨some 12, .mv (.tmp 2), some (10, true)⟩, ⟨some 13, .bin .leq (.tmp 11) (.tmp 12), some (10,
    true)⟩, ⟨some 14, .pick (.tmp 10) (.tmp 13) (.const (.bool false)), none⟩, ⟨some 6, .mv (.tmp 14), none⟩]) .ret))
theorem low16 : lowF Try.prog [] Try.f16 = some (15, lc16, [.tmp 6]) := by kernel_rfl
theorem fn16 : FnOk Try.prog 16 15 lc16 [.tmp 6] := ⟨Try.call16, [], _, Try.func16, low16⟩
/-- moonpool/cable.WindingOf -/
def lc18 : LCode :=
  (.seq (.region [⟨some 3, .box (.tmp 1), none⟩, ⟨some 4, .mv (.const (.int .i64 0)), none⟩, ⟨some 5, .mv (.const (.int .i64 0)), none⟩]) (.seq (.seq (.region [⟨some 7, .mv (.tmp
    0), none⟩, ⟨some 8, .call (.func 88) [(.tmp 7)], none⟩, ⟨some 6, .mv (.tmp 8), none⟩]) (.seq (.region [⟨some 9, .mv (.tmp 6), none⟩, ⟨some 10, .bin .neq (.tmp 9) (.const (.int
    .i64 0)), none⟩]) (.cond (.tmp 10) (.seq (.region [⟨some 11, .mv (.tmp 6), none⟩, ⟨some 4, .mv (.const (.int .i64 0)), none⟩, ⟨some 5, .mv (.tmp 11), none⟩]) .ret) .skip)))
    (.seq (.region [⟨some 12, .mv (.tmp 0), none⟩, ⟨some 13, .load true 2 (.tmp 3), none⟩, ⟨some 14, .call (.func 89) [(.tmp 12), (.tmp 13)], none⟩, ⟨some 15, .ext (.tmp 14) 0,
    none⟩, ⟨some 16, .ext (.tmp 14) 1, none⟩, ⟨some 4, .mv (.tmp 15), none⟩, ⟨some 5, .mv (.tmp 16), none⟩]) .ret)))
theorem low18 : lowF Try.prog [] Try.f18 = some (17, lc18, [.tmp 4, .tmp 5]) := by kernel_rfl
theorem fn18 : FnOk Try.prog 18 17 lc18 [.tmp 4, .tmp 5] := ⟨Try.call18, [], _, Try.func18, low18⟩
/-- moonpool/moonpoollaw01.few -/
def lc28 : LCode :=
  (.seq (.region [⟨some 2, .box (.tmp 0), none⟩, ⟨some 4, .mv (.const (.bool false)), none⟩]) (.seq (.region [⟨some 5, .fld 2 (.tmp 2), none⟩, ⟨some 6, .load false 1 (.tmp 5),
    none⟩, ⟨some 7, .len (.tmp 6), none⟩, ⟨some 8, .bin .leq (.tmp 7) (.const (.int .i64 12)), none⟩, ⟨some 9, .mv (.tmp 8), none⟩, ⟨some 10, .mv (.tmp 1), some (9, true)⟩, ⟨some
    11, .bin .leq (.tmp 10) (.const (.int .i64 14)), some (9, true)⟩, ⟨some 12, .pick (.tmp 9) (.tmp 11) (.const (.bool false)), none⟩, ⟨some 4, .mv (.tmp 12), none⟩]) .ret))
theorem low28 : lowF Try.prog [] Try.f28 = some (13, lc28, [.tmp 4]) := by kernel_rfl
theorem fn28 : FnOk Try.prog 28 13 lc28 [.tmp 4] := ⟨Try.call28, [], _, Try.func28, low28⟩
/-- moonpool/cable.TensionsOf -/
def lc29 : LCode :=
  (.seq (.region [⟨some 2, .box (.tmp 0), none⟩, ⟨some 4, .mv (.const (.slice none 0 0)), none⟩, ⟨some 5, .mv (.const (.int .i64 0)), none⟩]) (.seq (.region [⟨some 9, .load true 3
    (.tmp 2), none⟩, ⟨some 10, .mv (.tmp 1), none⟩, ⟨some 11, .call (.func 95) [(.tmp 9), (.tmp 10)], none⟩, ⟨some 8, .mv (.tmp 11), none⟩, ⟨some 12, .ext (.tmp 8) 0, none⟩, ⟨some
    13, .ext (.tmp 8) 1, none⟩, ⟨some 6, .alloc [(.int .i64 0), (.int .i64 0), (.slice none 0 0), (.slice none 0 0)], none⟩, ⟨none, .store 4 (.tmp 6) (.tmp 12), none⟩, ⟨some 7, .mv
    (.tmp 13), none⟩]) (.seq (.seq (.region [⟨some 14, .mv (.tmp 7), none⟩, ⟨some 15, .bin .neq (.tmp 14) (.const (.int .i64 0)), none⟩]) (.cond (.tmp 15) (.seq (.region [⟨some 16,
    .mv (.tmp 7), none⟩, ⟨some 4, .mv (.const (.slice none 0 0)), none⟩, ⟨some 5, .mv (.tmp 16), none⟩]) .ret) .skip)) (.seq (.region [⟨some 17, .load true 4 (.tmp 6), none⟩, ⟨some
    18, .call (.func 96) [(.tmp 17)], none⟩, ⟨some 4, .mv (.tmp 18), none⟩, ⟨some 5, .mv (.const (.int .i64 0)), none⟩]) .ret))))
theorem low29 : lowF Try.prog [] Try.f29 = some (19, lc29, [.tmp 4, .tmp 5]) := by kernel_rfl
theorem fn29 : FnOk Try.prog 29 19 lc29 [.tmp 4, .tmp 5] := ⟨Try.call29, [], _, Try.func29, low29⟩
/-- moonpool/moonpoolref01.CopyLine -/
def lc30 : LCode :=
  (.seq (.region [⟨some 1, .box (.tmp 0), none⟩, ⟨some 2, .alloc [(.int .i64 0), (.int .i64 0), (.slice none 0 0)], none⟩]) (.seq (.regionD [⟨some 3, .fld 0 (.tmp 1), none⟩, ⟨some
    4, .load true 2 (.tmp 3), none⟩, ⟨some 5, .lit false 99 3 [], none⟩, ⟨some 6, .fld 2 (.tmp 1), none⟩, ⟨some 7, .load false 1 (.tmp 6), none⟩, ⟨some 8, .append false 99 3 24
    (.tmp 5) (.tmp 7), none⟩, ⟨some 9, .build [(.int .i64 0), (.int .i64 0), (.slice none 0 0)] [(0, 2, (.tmp 4)), (2, 1, (.tmp 8))], none⟩, ⟨none, .store 3 (.tmp 2) (.tmp 9),
    none⟩] [0, 1, 0, 0, 8, 28, 63, 127] [0, 1, 2, 3, 4, 5, 6, 7]) .ret))
theorem low30 : lowF Try.prog [] Try.f30 = some (10, lc30, [.cell 2 true 3]) := by kernel_rfl
theorem fn30 : FnOk Try.prog 30 10 lc30 [.cell 2 true 3] := ⟨Try.call30, [], _, Try.func30, low30⟩
/-- moonpool/moonpoolbase.CopyInts -/
def lc31 : LCode :=
  (.seq (.region [⟨some 2, .mv (.const (.slice none 0 0)), none⟩]) (.seq (.region [⟨some 3, .lit false 3 1 [], none⟩, ⟨some 4, .mv (.tmp 0), none⟩, ⟨some 5, .append false 3 1 8
    (.tmp 3) (.tmp 4), none⟩, ⟨some 2, .mv (.tmp 5), none⟩]) .ret))
theorem low31 : lowF Try.prog [] Try.f31 = some (6, lc31, [.tmp 2]) := by kernel_rfl
theorem fn31 : FnOk Try.prog 31 6 lc31 [.tmp 2] := ⟨Try.call31, [], _, Try.func31, low31⟩
/-- moonpool/cable.CheckBalance -/
def lc32 : LCode :=
  (.seq (.region [⟨some 3, .box (.tmp 0), none⟩, ⟨some 4, .box (.tmp 1), none⟩, ⟨some 6, .mv (.const (.int .i64 0)), none⟩, ⟨some 7, .mv (.const (.int .i64 0)), none⟩]) (.seq
    (.region [⟨some 12, .load true 3 (.tmp 3), none⟩, ⟨some 13, .load false 1 (.tmp 4), none⟩, ⟨some 14, .call (.func 95) [(.tmp 12), (.tmp 13)], none⟩, ⟨some 11, .mv (.tmp 14),
    none⟩, ⟨some 15, .ext (.tmp 11) 0, none⟩, ⟨some 16, .ext (.tmp 11) 1, none⟩, ⟨some 8, .alloc [(.int .i64 0), (.int .i64 0), (.slice none 0 0), (.slice none 0 0)], none⟩, ⟨none,
    .store 4 (.tmp 8) (.tmp 15), none⟩, ⟨some 9, .mv (.tmp 16), none⟩]) (.seq (.seq (.region [⟨some 17, .mv (.tmp 9), none⟩, ⟨some 18, .mv (.tmp 2), none⟩, ⟨some 19, .len (.tmp 18),
    none⟩, ⟨some 20, .fld 2 (.tmp 3), none⟩, ⟨some 21, .load false 1 (.tmp 20), none⟩, ⟨some 22, .len (.tmp 21), none⟩, ⟨some 23, .bin .eql (.tmp 19) (.tmp 22), none⟩, ⟨some 24,
    .call (.func 91) [(.tmp 23), (.const (.int .i64 10))], none⟩, ⟨some 25, .lit false 29 1 [(.tmp 17), (.tmp 24)], none⟩, ⟨some 26, .call (.func 90) [(.tmp 25)], none⟩, ⟨some 9,
    .mv (.tmp 26), none⟩]) (.seq (.region [⟨some 27, .mv (.tmp 9), none⟩, ⟨some 28, .bin .neq (.tmp 27) (.const (.int .i64 0)), none⟩]) (.cond (.tmp 28) (.seq (.region [⟨some 29,
    .mv (.tmp 9), none⟩, ⟨some 6, .mv (.const (.int .i64 0)), none⟩, ⟨some 7, .mv (.tmp 29), none⟩]) .ret) .skip))) (.seq (.region [⟨some 30, .fld 0 (.tmp 3), none⟩, ⟨some 31, .load
    true 2 (.tmp 30), none⟩, ⟨some 10, .alloc [(.int .i64 0), (.int .i64 0)], none⟩, ⟨none, .store 2 (.tmp 10) (.tmp 31), none⟩]) (.seq (.region [⟨some 32, .mv (.tmp 2), none⟩,
    ⟨some 33, .mkfn 98 [(.tmp 3), (.tmp 10), (.tmp 4)], none⟩, ⟨some 34, .call (.func 97) [(.tmp 32), (.tmp 33)], none⟩, ⟨some 35, .ext (.tmp 34) 0, none⟩, ⟨some 36, .ext (.tmp 34)
    1, none⟩, ⟨some 6, .mv (.tmp 35), none⟩, ⟨some 7, .mv (.tmp 36), none⟩]) .ret)))))
theorem low32 : lowF Try.prog [] Try.f32 = some (37, lc32, [.tmp 6, .tmp 7]) := by kernel_rfl
theorem fn32 : FnOk Try.prog 32 37 lc32 [.tmp 6, .tmp 7] := ⟨Try.call32, [], _, Try.func32, low32⟩
/-- moonpool/moonpoolref01.CopyForces -/
def lc33 : LCode :=
  (.seq (.region [⟨some 2, .mv (.const (.slice none 0 0)), none⟩]) (.seq (.region [⟨some 3, .lit false 46 2 [], none⟩, ⟨some 4, .mv (.tmp 0), none⟩, ⟨some 5, .append false 46 2 16
    (.tmp 3) (.tmp 4), none⟩, ⟨some 2, .mv (.tmp 5), none⟩]) .ret))
theorem low33 : lowF Try.prog [] Try.f33 = some (6, lc33, [.tmp 2]) := by kernel_rfl
theorem fn33 : FnOk Try.prog 33 6 lc33 [.tmp 2] := ⟨Try.call33, [], _, Try.func33, low33⟩
/-- moonpool/moonpoolref01.LineErr -/
def lc35 : LCode :=
  (.seq (.region [⟨some 1, .box (.tmp 0), none⟩, ⟨some 2, .mv (.const (.int .i64 0)), none⟩]) (.seq (.region [⟨some 6, .load true 3 (.tmp 1), none⟩, ⟨some 7, .call (.func 51) [(.tmp
    6)], none⟩, ⟨some 5, .mv (.tmp 7), none⟩, ⟨some 8, .ext (.tmp 5) 0, none⟩, ⟨some 9, .ext (.tmp 5) 1, none⟩, ⟨some 3, .mv (.tmp 8), none⟩, ⟨some 4, .mv (.tmp 9), none⟩]) (.seq
    (.region [⟨some 10, .mv (.tmp 4), none⟩, ⟨some 2, .mv (.tmp 10), none⟩]) .ret)))
theorem low35 : lowF Try.prog [] Try.f35 = some (11, lc35, [.tmp 2]) := by kernel_rfl
theorem fn35 : FnOk Try.prog 35 11 lc35 [.tmp 2] := ⟨Try.call35, [], _, Try.func35, low35⟩
/-- moonpool/moonpoolref01.CurrentsErr -/
def lc36 : LCode :=
  (.seq (.region [⟨some 2, .box (.tmp 0), none⟩, ⟨some 4, .mv (.const (.int .i64 0)), none⟩]) (.seq (.seq (.region [⟨some 6, .mv (.tmp 1), none⟩, ⟨some 7, .len (.tmp 6), none⟩,
    ⟨some 8, .fld 2 (.tmp 2), none⟩, ⟨some 9, .load false 1 (.tmp 8), none⟩, ⟨some 10, .len (.tmp 9), none⟩, ⟨some 11, .bin .neq (.tmp 7) (.tmp 10), none⟩]) (.cond (.tmp 11) (.seq
    (.region [⟨some 4, .mv (.const (.int .i64 10)), none⟩]) .ret) .skip)) (.seq (.seq (.region [⟨some 5, .mv (.const (.int .i64 0)), none⟩]) (.block 0 (.loop (.seq (.seq (.region
    [⟨some 12, .mv (.tmp 5), none⟩, ⟨some 13, .mv (.tmp 1), none⟩, ⟨some 14, .len (.tmp 13), none⟩, ⟨some 15, .bin .lss (.tmp 12) (.tmp 14), none⟩]) (.cond (.tmp 15) .skip (.exit
    0))) (.seq (.block 1 (.seq (.region [⟨some 18, .mv (.tmp 1), none⟩, ⟨some 19, .mv (.tmp 5), none⟩, ⟨some 20, .idx 1 (.tmp 18) (.tmp 19), none⟩, ⟨some 21, .load false 1 (.tmp
    20), none⟩, ⟨some 22, .call (.func 100) [(.tmp 21)], none⟩, ⟨some 23, .un .not (.tmp 22), none⟩]) (.cond (.tmp 23) (.seq (.region [⟨some 4, .mv (.const (.int .i64 2)), none⟩])
    .ret) .skip))) (.region [⟨some 16, .mv (.tmp 5), none⟩, ⟨some 17, .bin .add (.tmp 16) (.const (.int .i64 1)), none⟩, ⟨some 5, .mv (.tmp 17), none⟩])))))) (.seq (.region [⟨some
    4, .mv (.const (.int .i64 0)), none⟩]) .ret))))
theorem low36 : lowF Try.prog [] Try.f36 = some (24, lc36, [.tmp 4]) := by kernel_rfl
theorem fn36 : FnOk Try.prog 36 24 lc36 [.tmp 4] := ⟨Try.call36, [], _, Try.func36, low36⟩
/-- moonpool/moonpoolref01.SameForces -/
def lc39 : LCode :=
  (.seq (.region [⟨some 4, .mv (.const (.bool false)), none⟩]) (.seq (.seq (.region [⟨some 6, .mv (.tmp 0), none⟩, ⟨some 7, .len (.tmp 6), none⟩, ⟨some 8, .mv (.tmp 1), none⟩, ⟨some
    9, .len (.tmp 8), none⟩, ⟨some 10, .bin .neq (.tmp 7) (.tmp 9), none⟩]) (.cond (.tmp 10) (.seq (.region [⟨some 4, .mv (.const (.bool false)), none⟩]) .ret) .skip)) (.seq (.seq
    (.region [⟨some 5, .mv (.const (.int .i64 0)), none⟩]) (.block 0 (.loop (.seq (.seq (.region [⟨some 11, .mv (.tmp 5), none⟩, ⟨some 12, .mv (.tmp 0), none⟩, ⟨some 13, .len (.tmp
    12), none⟩, ⟨some 14, .bin .lss (.tmp 11) (.tmp 13), none⟩]) (.cond (.tmp 14) .skip (.exit 0))) (.seq (.block 1 (.seq (.regionD [⟨some 17, .mv (.tmp 0), none⟩, ⟨some 18, .mv
    (.tmp 5), none⟩, ⟨some 19, .idx 2 (.tmp 17) (.tmp 18), none⟩, ⟨some 20, .load true 2 (.tmp 19), none⟩, ⟨some 21, .mv (.tmp 1), none⟩, ⟨some 22, .mv (.tmp 5), none⟩, ⟨some 23,
    .idx 2 (.tmp 21) (.tmp 22), none⟩, ⟨some 24, .load true 2 (.tmp 23), none⟩, ⟨some 25, .eqA true 2 (.tmp 20) (.tmp 24), none⟩] [0, 0, 3, 7, 0, 0, 48, 112, 255] [0, 1, 2, 3, 4, 5,
    6, 7, 8]) (.cond (.tmp 25) (.seq (.region [⟨some 4, .mv (.const (.bool false)), none⟩]) .ret) .skip))) (.region [⟨some 15, .mv (.tmp 5), none⟩, ⟨some 16, .bin .add (.tmp 15)
    (.const (.int .i64 1)), none⟩, ⟨some 5, .mv (.tmp 16), none⟩])))))) (.seq (.region [⟨some 4, .mv (.const (.bool true)), none⟩]) .ret))))
theorem low39 : lowF Try.prog [] Try.f39 = some (26, lc39, [.tmp 4]) := by kernel_rfl
theorem fn39 : FnOk Try.prog 39 26 lc39 [.tmp 4] := ⟨Try.call39, [], _, Try.func39, low39⟩
/-- moonpool/cable.CheckLine -/
def lc46 : LCode :=
  (.seq (.region [⟨some 1, .box (.tmp 0), none⟩, ⟨some 2, .mv (.const (.int .i64 0)), none⟩, ⟨some 3, .mv (.const (.int .i64 0)), none⟩]) (.seq (.regionD [⟨some 5, .fld 0 (.tmp 1),
    none⟩, ⟨some 6, .fld 0 (.tmp 5), none⟩, ⟨some 7, .load false 1 (.tmp 6), none⟩, ⟨some 8, .call (.func 106) [(.tmp 7), (.const (.int .i64 10000))], none⟩, ⟨some 9, .mv (.tmp 8),
    none⟩, ⟨some 10, .fld 0 (.tmp 1), some (9, true)⟩, ⟨some 11, .fld 1 (.tmp 10), some (9, true)⟩, ⟨some 12, .load false 1 (.tmp 11), some (9, true)⟩, ⟨some 13, .call (.func 106)
    [(.tmp 12), (.const (.int .i64 10000))], some (9, true)⟩, ⟨some 14, .pick (.tmp 9) (.tmp 13) (.const (.bool false)), none⟩, ⟨some 15, .call (.func 91) [(.tmp 14), (.const (.int
    .i64 2))], none⟩, ⟨some 16, .fld 2 (.tmp 1), none⟩, ⟨some 17, .load false 1 (.tmp 16), none⟩, ⟨some 18, .len (.tmp 17), none⟩, ⟨some 19, .bin .gtr (.tmp 18) (.const (.int .i64
    0)), none⟩, ⟨some 20, .call (.func 91) [(.tmp 19), (.const (.int .i64 10))], none⟩, ⟨some 21, .fld 2 (.tmp 1), none⟩, ⟨some 22, .load false 1 (.tmp 21), none⟩, ⟨some 23, .len
    (.tmp 22), none⟩, ⟨some 24, .bin .leq (.tmp 23) (.const (.int .i64 10)), none⟩, ⟨some 25, .call (.func 91) [(.tmp 24), (.const (.int .i64 8))], none⟩, ⟨some 26, .lit false 29 1
    [(.tmp 15), (.tmp 20), (.tmp 25)], none⟩, ⟨some 27, .call (.func 90) [(.tmp 26)], none⟩, ⟨some 4, .mv (.tmp 27), none⟩] [0, 1, 3, 7, 15, 31, 63, 127, 255, 511, 1023, 0, 2048,
    6144, 14336, 32767, 0, 65536, 196608, 458752, 1048575, 2097151, 4194303, 8388607] [0, 1, 2, 3, 4, 5, 6, 7, 8, 9, 10, 11, 12, 13, 14, 15, 16, 17, 18, 19, 20, 21, 22, 23]) (.seq
    (.seq (.region [⟨some 28, .mv (.tmp 4), none⟩, ⟨some 29, .bin .neq (.tmp 28) (.const (.int .i64 0)), none⟩]) (.cond (.tmp 29) (.seq (.region [⟨some 30, .mv (.tmp 4), none⟩,
    ⟨some 2, .mv (.const (.int .i64 0)), none⟩, ⟨some 3, .mv (.tmp 30), none⟩]) .ret) .skip)) (.seq (.region [⟨some 31, .fld 2 (.tmp 1), none⟩, ⟨some 32, .load false 1 (.tmp 31),
    none⟩, ⟨some 33, .call (.func 107) [(.tmp 32), (.func 108)], none⟩, ⟨some 34, .ext (.tmp 33) 0, none⟩, ⟨some 35, .ext (.tmp 33) 1, none⟩, ⟨some 2, .mv (.tmp 34), none⟩, ⟨some 3,
    .mv (.tmp 35), none⟩]) .ret))))
theorem low46 : lowF Try.prog [] Try.f46 = some (36, lc46, [.tmp 2, .tmp 3]) := by kernel_rfl
theorem fn46 : FnOk Try.prog 46 36 lc46 [.tmp 2, .tmp 3] := ⟨Try.call46, [], _, Try.func46, low46⟩
/-- moonpool/cable.CheckBox -/
def lc47 : LCode :=
  (.seq (.region [⟨some 2, .box (.tmp 0), none⟩, ⟨some 4, .mv (.const (.int .i64 0)), none⟩, ⟨some 5, .mv (.const (.int .i64 0)), none⟩]) (.seq (.seq (.region [⟨some 9, .load true 3
    (.tmp 2), none⟩, ⟨some 10, .call (.func 46) [(.tmp 9)], none⟩, ⟨some 8, .mv (.tmp 10), none⟩, ⟨some 11, .ext (.tmp 8) 0, none⟩, ⟨some 12, .ext (.tmp 8) 1, none⟩, ⟨some 6, .mv
    (.tmp 11), none⟩, ⟨some 7, .mv (.tmp 12), none⟩]) (.seq (.region [⟨some 13, .mv (.tmp 7), none⟩, ⟨some 14, .bin .neq (.tmp 13) (.const (.int .i64 0)), none⟩]) (.cond (.tmp 14)
    (.seq (.region [⟨some 15, .mv (.tmp 6), none⟩, ⟨some 16, .mv (.tmp 7), none⟩, ⟨some 4, .mv (.tmp 15), none⟩, ⟨some 5, .mv (.tmp 16), none⟩]) .ret) .skip))) (.seq (.seq (.region
    [⟨some 17, .mv (.tmp 1), none⟩, ⟨some 18, .len (.tmp 17), none⟩, ⟨some 19, .fld 2 (.tmp 2), none⟩, ⟨some 20, .load false 1 (.tmp 19), none⟩, ⟨some 21, .len (.tmp 20), none⟩,
    ⟨some 22, .bin .neq (.tmp 18) (.tmp 21), none⟩]) (.cond (.tmp 22) (.seq (.region [⟨some 4, .mv (.const (.int .i64 0)), none⟩, ⟨some 5, .mv (.const (.int .i64 10)), none⟩]) .ret)
    .skip)) (.seq (.region [⟨some 23, .mv (.tmp 1), none⟩, ⟨some 24, .call (.func 109) [(.tmp 23), (.func 110)], none⟩, ⟨some 25, .ext (.tmp 24) 0, none⟩, ⟨some 26, .ext (.tmp 24)
    1, none⟩, ⟨some 4, .mv (.tmp 25), none⟩, ⟨some 5, .mv (.tmp 26), none⟩]) .ret))))
theorem low47 : lowF Try.prog [] Try.f47 = some (27, lc47, [.tmp 4, .tmp 5]) := by kernel_rfl
theorem fn47 : FnOk Try.prog 47 27 lc47 [.tmp 4, .tmp 5] := ⟨Try.call47, [], _, Try.func47, low47⟩
/-- moonpool/moonpoolref01.CheckLine -/
def lc51 : LCode :=
  (.seq (.region [⟨some 1, .box (.tmp 0), none⟩, ⟨some 2, .mv (.const (.int .i64 0)), none⟩, ⟨some 3, .mv (.const (.int .i64 0)), none⟩]) (.seq (.region [⟨some 4, .mv (.const (.int
    .i64 10000)), none⟩]) (.seq (.seq (.region [⟨some 7, .fld 0 (.tmp 1), none⟩, ⟨some 8, .fld 0 (.tmp 7), none⟩, ⟨some 9, .load false 1 (.tmp 8), none⟩, ⟨some 10, .mv (.tmp 4),
    none⟩, ⟨some 11, .un .neg (.tmp 10), none⟩, ⟨some 12, .mv (.tmp 4), none⟩, ⟨some 13, .call (.func 16) [(.tmp 9), (.tmp 11), (.tmp 12)], none⟩, ⟨some 14, .un .not (.tmp 13),
    none⟩, ⟨some 15, .mv (.tmp 14), none⟩, ⟨some 16, .fld 0 (.tmp 1), some (15, false)⟩, ⟨some 17, .fld 1 (.tmp 16), some (15, false)⟩, ⟨some 18, .load false 1 (.tmp 17), some (15,
    false)⟩, ⟨some 19, .mv (.tmp 4), some (15, false)⟩, ⟨some 20, .un .neg (.tmp 19), some (15, false)⟩, ⟨some 21, .mv (.tmp 4), some (15, false)⟩, ⟨some 22, .call (.func 16) [(.tmp
    18), (.tmp 20), (.tmp 21)], some (15, false)⟩, ⟨some 23, .un .not (.tmp 22), some (15, false)⟩, ⟨some 24, .pick (.tmp 15) (.const (.bool true)) (.tmp 23), none⟩]) (.cond (.tmp
    24) (.seq (.region [⟨some 2, .mv (.const (.int .i64 0)), none⟩, ⟨some 3, .mv (.const (.int .i64 2)), none⟩]) .ret) .skip)) (.seq (.seq (.region [⟨some 25, .fld 2 (.tmp 1),
    none⟩, ⟨some 26, .load false 1 (.tmp 25), none⟩, ⟨some 27, .len (.tmp 26), none⟩, ⟨some 28, .bin .eql (.tmp 27) (.const (.int .i64 0)), none⟩]) (.cond (.tmp 28) (.seq (.region
    [⟨some 2, .mv (.const (.int .i64 0)), none⟩, ⟨some 3, .mv (.const (.int .i64 10)), none⟩]) .ret) .skip)) (.seq (.seq (.region [⟨some 29, .fld 2 (.tmp 1), none⟩, ⟨some 30, .load
    false 1 (.tmp 29), none⟩, ⟨some 31, .len (.tmp 30), none⟩, ⟨some 32, .bin .gtr (.tmp 31) (.const (.int .i64 10)), none⟩]) (.cond (.tmp 32) (.seq (.region [⟨some 2, .mv (.const
    (.int .i64 0)), none⟩, ⟨some 3, .mv (.const (.int .i64 8)), none⟩]) .ret) .skip)) (.seq (.seq (.region [⟨some 5, .mv (.const (.int .i64 0)), none⟩]) (.block 0 (.loop (.seq (.seq
    (.region [⟨some 33, .mv (.tmp 5), none⟩, ⟨some 34, .fld 2 (.tmp 1), none⟩, ⟨some 35, .load false 1 (.tmp 34), none⟩, ⟨some 36, .len (.tmp 35), none⟩, ⟨some 37, .bin .lss (.tmp
    33) (.tmp 36), none⟩]) (.cond (.tmp 37) .skip (.exit 0))) (.seq (.block 1 (.seq (.region [⟨some 40, .fld 2 (.tmp 1), none⟩, ⟨some 41, .load false 1 (.tmp 40), none⟩, ⟨some 42,
    .mv (.tmp 5), none⟩, ⟨some 43, .idx 3 (.tmp 41) (.tmp 42), none⟩, ⟨some 44, .load true 3 (.tmp 43), none⟩, ⟨some 6, .alloc [(.int .i64 0), (.int .i64 0), (.int .i64 0)], none⟩,
    ⟨none, .store 3 (.tmp 6) (.tmp 44), none⟩]) (.seq (.region [⟨some 45, .fld 0 (.tmp 6), none⟩, ⟨some 46, .load false 1 (.tmp 45), none⟩, ⟨some 47, .call (.func 16) [(.tmp 46),
    (.const (.int .i64 1)), (.const (.int .i64 1000))], none⟩, ⟨some 48, .un .not (.tmp 47), none⟩, ⟨some 49, .mv (.tmp 48), none⟩, ⟨some 50, .fld 1 (.tmp 6), some (49, false)⟩,
    ⟨some 51, .load false 1 (.tmp 50), some (49, false)⟩, ⟨some 52, .call (.func 16) [(.tmp 51), (.const (.int .i64 (-1000))), (.const (.int .i64 1000))], some (49, false)⟩, ⟨some
    53, .un .not (.tmp 52), some (49, false)⟩, ⟨some 54, .pick (.tmp 49) (.const (.bool true)) (.tmp 53), none⟩, ⟨some 55, .mv (.tmp 54), none⟩, ⟨some 56, .fld 2 (.tmp 6), some (55,
    false)⟩, ⟨some 57, .load false 1 (.tmp 56), some (55, false)⟩, ⟨some 58, .call (.func 16) [(.tmp 57), (.const (.int .i64 0)), (.const (.int .i64 20))], some (55, false)⟩, ⟨some
    59, .un .not (.tmp 58), some (55, false)⟩, ⟨some 60, .pick (.tmp 55) (.const (.bool true)) (.tmp 59), none⟩]) (.cond (.tmp 60) (.seq (.region [⟨some 61, .mv (.tmp 5), none⟩,
    ⟨some 2, .mv (.tmp 61), none⟩, ⟨some 3, .mv (.const (.int .i64 2)), none⟩]) .ret) .skip)))) (.region [⟨some 38, .mv (.tmp 5), none⟩, ⟨some 39, .bin .add (.tmp 38) (.const (.int
    .i64 1)), none⟩, ⟨some 5, .mv (.tmp 39), none⟩])))))) (.seq (.region [⟨some 2, .mv (.const (.int .i64 0)), none⟩, ⟨some 3, .mv (.const (.int .i64 0)), none⟩]) .ret)))))))
theorem low51 : lowF Try.prog [] Try.f51 = some (62, lc51, [.tmp 2, .tmp 3]) := by kernel_rfl
theorem fn51 : FnOk Try.prog 51 62 lc51 [.tmp 2, .tmp 3] := ⟨Try.call51, [], _, Try.func51, low51⟩
/-- moonpool/cable.LaybackOf -/
def lc56 : LCode :=
  (.seq (.region [⟨some 2, .box (.tmp 0), none⟩, ⟨some 4, .alloc [(.int .i64 0), (.int .i64 0)], none⟩, ⟨some 5, .mv (.const (.int .i64 0)), none⟩]) (.seq (.region [⟨some 9, .load
    true 3 (.tmp 2), none⟩, ⟨some 10, .mv (.tmp 1), none⟩, ⟨some 11, .call (.func 95) [(.tmp 9), (.tmp 10)], none⟩, ⟨some 12, .ext (.tmp 11) 0, none⟩, ⟨some 13, .ext (.tmp 11) 1,
    none⟩, ⟨some 14, .call (.func 116) [(.tmp 12), (.tmp 13)], none⟩, ⟨some 8, .mv (.tmp 14), none⟩, ⟨some 15, .ext (.tmp 8) 0, none⟩, ⟨some 16, .ext (.tmp 8) 1, none⟩, ⟨some 6,
    .alloc [(.int .i64 0), (.int .i64 0), (.slice none 0 0), (.slice none 0 0)], none⟩, ⟨none, .store 4 (.tmp 6) (.tmp 15), none⟩, ⟨some 7, .mv (.tmp 16), none⟩]) (.seq (.seq
    (.region [⟨some 17, .mv (.tmp 7), none⟩, ⟨some 18, .bin .neq (.tmp 17) (.const (.int .i64 0)), none⟩]) (.cond (.tmp 18) (.seq (.region [⟨some 19, .build [(.int .i64 0), (.int
    .i64 0)] [], none⟩, ⟨some 20, .mv (.tmp 7), none⟩, ⟨none, .store 2 (.tmp 4) (.tmp 19), none⟩, ⟨some 5, .mv (.tmp 20), none⟩]) .ret) .skip)) (.seq (.region [⟨some 21, .load true
    4 (.tmp 6), none⟩, ⟨some 22, .call (.func 118) [(.tmp 21)], none⟩, ⟨none, .store 2 (.tmp 4) (.tmp 22), none⟩, ⟨some 5, .mv (.const (.int .i64 0)), none⟩]) .ret))))
theorem low56 : lowF Try.prog [] Try.f56 = some (23, lc56, [.cell 4 true 2, .tmp 5]) := by kernel_rfl
theorem fn56 : FnOk Try.prog 56 23 lc56 [.cell 4 true 2, .tmp 5] := ⟨Try.call56, [], _, Try.func56, low56⟩
def ra57 : LCode :=
  (.region [⟨some 10, .alloc [(.int .i64 0), (.int .i64 0), (.int .i64 0), (.int .i64 0)], none⟩, ⟨none, .store 4 (.tmp 10) (.tmp 28), none⟩])
def rb57 : LCode :=
  (.block 1 (.seq (.region [⟨some 29, .load true 4 (.tmp 10), none⟩, ⟨some 30, .fld 0 (.tmp 10), none⟩, ⟨some 31, .fld 0 (.tmp 30), none⟩, ⟨some 32, .load false 1 (.tmp 31), none⟩,
    ⟨some 33, .call (.func 119) [(.tmp 29), (.tmp 32)], none⟩, ⟨some 11, .alloc [(.int .i64 0), (.int .i64 0)], none⟩, ⟨none, .store 2 (.tmp 11) (.tmp 33), none⟩]) (.regionD [⟨some
    34, .fld 0 (.tmp 8), none⟩, ⟨some 35, .load false 1 (.tmp 34), none⟩, ⟨some 36, .fld 0 (.tmp 11), none⟩, ⟨some 37, .load false 1 (.tmp 36), none⟩, ⟨some 38, .bin .add (.tmp 35)
    (.tmp 37), none⟩, ⟨some 39, .fld 1 (.tmp 8), none⟩, ⟨some 40, .load false 1 (.tmp 39), none⟩, ⟨some 41, .fld 1 (.tmp 11), none⟩, ⟨some 42, .load false 1 (.tmp 41), none⟩, ⟨some
    43, .bin .add (.tmp 40) (.tmp 42), none⟩, ⟨some 44, .fld 0 (.tmp 8), none⟩, ⟨none, .store 1 (.tmp 44) (.tmp 38), none⟩, ⟨some 45, .fld 1 (.tmp 8), none⟩, ⟨none, .store 1 (.tmp
    45) (.tmp 43), none⟩] [0, 1, 0, 4, 15, 0, 32, 0, 128, 480, 127, 1151, 4095, 8191] [0, 1, 2, 3, 4, 5, 6, 7, 8, 9, 10, 11, 12, 13])))
/-- moonpool/cable.LengthOf -/
def lc57 : LCode :=
  (.seq (.region [⟨some 2, .box (.tmp 0), none⟩, ⟨some 4, .alloc [(.int .i64 0), (.int .i64 0)], none⟩, ⟨some 5, .mv (.const (.int .i64 0)), none⟩]) (.seq (.region [⟨some 13, .load
    true 3 (.tmp 2), none⟩, ⟨some 14, .mv (.tmp 1), none⟩, ⟨some 15, .call (.func 95) [(.tmp 13), (.tmp 14)], none⟩, ⟨some 16, .ext (.tmp 15) 0, none⟩, ⟨some 17, .ext (.tmp 15) 1,
    none⟩, ⟨some 18, .call (.func 116) [(.tmp 16), (.tmp 17)], none⟩, ⟨some 12, .mv (.tmp 18), none⟩, ⟨some 19, .ext (.tmp 12) 0, none⟩, ⟨some 20, .ext (.tmp 12) 1, none⟩, ⟨some 6,
    .alloc [(.int .i64 0), (.int .i64 0), (.slice none 0 0), (.slice none 0 0)], none⟩, ⟨none, .store 4 (.tmp 6) (.tmp 19), none⟩, ⟨some 7, .mv (.tmp 20), none⟩]) (.seq (.seq
    (.region [⟨some 21, .mv (.tmp 7), none⟩, ⟨some 22, .bin .neq (.tmp 21) (.const (.int .i64 0)), none⟩]) (.cond (.tmp 22) (.seq (.region [⟨some 23, .build [(.int .i64 0), (.int
    .i64 0)] [], none⟩, ⟨some 24, .mv (.tmp 7), none⟩, ⟨none, .store 2 (.tmp 4) (.tmp 23), none⟩, ⟨some 5, .mv (.tmp 24), none⟩]) .ret) .skip)) (.seq (.region [⟨some 8, .alloc
    [(.int .i64 0), (.int .i64 0)], none⟩]) (.seq (.seq (.region [⟨some 25, .load true 4 (.tmp 6), none⟩, ⟨some 26, .call (.func 113) [(.tmp 25)], none⟩]) (.block 0 (.rangeFunc
    (.tmp 26) [27, 28] ra57 rb57))) (.seq (.region [⟨some 46, .load true 2 (.tmp 8), none⟩, ⟨none, .store 2 (.tmp 4) (.tmp 46), none⟩, ⟨some 5, .mv (.const (.int .i64 0)), none⟩])
    .ret))))))
theorem low57 : lowF Try.prog [] Try.f57 = some (47, lc57, [.cell 4 true 2, .tmp 5]) := by kernel_rfl
theorem fn57 : FnOk Try.prog 57 47 lc57 [.cell 4 true 2, .tmp 5] := ⟨Try.call57, [], _, Try.func57, low57⟩
/-- moonpool/cable.BendsOf -/
def lc58 : LCode :=
  (.seq (.region [⟨some 2, .box (.tmp 0), none⟩, ⟨some 4, .mv (.const (.slice none 0 0)), none⟩, ⟨some 5, .mv (.const (.int .i64 0)), none⟩]) (.seq (.region [⟨some 15, .load true 3
    (.tmp 2), none⟩, ⟨some 16, .mv (.tmp 1), none⟩, ⟨some 17, .call (.func 95) [(.tmp 15), (.tmp 16)], none⟩, ⟨some 18, .ext (.tmp 17) 0, none⟩, ⟨some 19, .ext (.tmp 17) 1, none⟩,
    ⟨some 20, .call (.func 116) [(.tmp 18), (.tmp 19)], none⟩, ⟨some 14, .mv (.tmp 20), none⟩, ⟨some 21, .ext (.tmp 14) 0, none⟩, ⟨some 22, .ext (.tmp 14) 1, none⟩, ⟨some 6, .alloc
    [(.int .i64 0), (.int .i64 0), (.slice none 0 0), (.slice none 0 0)], none⟩, ⟨none, .store 4 (.tmp 6) (.tmp 21), none⟩, ⟨some 7, .mv (.tmp 22), none⟩]) (.seq (.seq (.region
    [⟨some 23, .mv (.tmp 7), none⟩, ⟨some 24, .bin .neq (.tmp 23) (.const (.int .i64 0)), none⟩]) (.cond (.tmp 24) (.seq (.region [⟨some 25, .mv (.tmp 7), none⟩, ⟨some 4, .mv
    (.const (.slice none 0 0)), none⟩, ⟨some 5, .mv (.tmp 25), none⟩]) .ret) .skip)) (.seq (.region [⟨some 8, .mv (.const (.slice none 0 0)), none⟩]) (.seq (.region [⟨some 26, .load
    true 4 (.tmp 6), none⟩, ⟨some 27, .call (.func 96) [(.tmp 26)], none⟩, ⟨some 9, .mv (.tmp 27), none⟩]) (.seq (.seq (.region [⟨some 28, .mv (.tmp 9), none⟩, ⟨some 29, .slc 2
    (.tmp 28) (some (.const (.int .i64 1))) none, none⟩, ⟨some 30, .len (.tmp 29), none⟩, ⟨some 31, .mv (.const (.int .i64 0)), none⟩]) (.block 0 (.loop (.seq (.region [⟨some 32,
    .bin .lss (.tmp 31) (.tmp 30), none⟩]) (.seq (.cond (.tmp 32) .skip (.exit 0)) (.seq (.block 1 (.seq (.region [⟨some 33, .mv (.tmp 31), none⟩, ⟨some 34, .idx 2 (.tmp 29) (.tmp
    31), none⟩, ⟨some 35, .load true 2 (.tmp 34), none⟩, ⟨some 11, .alloc [(.int .i64 0), (.int .i64 0)], none⟩, ⟨some 10, .mv (.tmp 33), none⟩, ⟨none, .store 2 (.tmp 11) (.tmp 35),
    none⟩]) (.seq (.region [⟨some 36, .mv (.tmp 9), none⟩, ⟨some 37, .mv (.tmp 10), none⟩, ⟨some 38, .idx 2 (.tmp 36) (.tmp 37), none⟩, ⟨some 39, .load true 2 (.tmp 38), none⟩,
    ⟨some 12, .alloc [(.int .i64 0), (.int .i64 0)], none⟩, ⟨none, .store 2 (.tmp 12) (.tmp 39), none⟩]) (.seq (.region [⟨some 40, .fld 0 (.tmp 12), none⟩, ⟨some 41, .load false 1
    (.tmp 40), none⟩, ⟨some 42, .fld 1 (.tmp 11), none⟩, ⟨some 43, .load false 1 (.tmp 42), none⟩, ⟨some 44, .bin .mul (.tmp 41) (.tmp 43), none⟩, ⟨some 45, .fld 0 (.tmp 11), none⟩,
    ⟨some 46, .load false 1 (.tmp 45), none⟩, ⟨some 47, .fld 1 (.tmp 12), none⟩, ⟨some 48, .load false 1 (.tmp 47), none⟩, ⟨some 49, .bin .mul (.tmp 46) (.tmp 48), none⟩, ⟨some 50,
    .bin .sub (.tmp 44) (.tmp 49), none⟩, ⟨some 13, .mv (.tmp 50), none⟩]) (.regionD [⟨some 51, .mv (.tmp 8), none⟩, ⟨some 52, .mv (.tmp 13), none⟩, ⟨some 53, .mv (.tmp 13), none⟩,
    ⟨some 54, .bin .mul (.tmp 52) (.tmp 53), none⟩, ⟨some 55, .load true 2 (.tmp 11), none⟩, ⟨some 56, .call (.func 99) [(.tmp 55)], none⟩, ⟨some 57, .load true 2 (.tmp 12), none⟩,
    ⟨some 58, .call (.func 99) [(.tmp 57)], none⟩, ⟨some 59, .bin .mul (.tmp 56) (.tmp 58), none⟩, ⟨some 60, .call (.func 117) [(.tmp 54), (.tmp 59)], none⟩, ⟨some 61, .lit false 89
    2 [(.tmp 60)], none⟩, ⟨some 62, .append true 89 2 16 (.tmp 51) (.tmp 61), none⟩, ⟨some 8, .mv (.tmp 62), none⟩] [0, 0, 0, 6, 0, 16, 0, 112, 240, 510, 1022, 2047, 4095] [0, 1, 2,
    3, 4, 5, 6, 7, 8, 9, 10, 11, 12]))))) (.region [⟨some 63, .bin .add (.tmp 31) (.const (.int .i64 1)), none⟩, ⟨some 31, .mv (.tmp 63), none⟩]))))))) (.seq (.region [⟨some 64, .mv
    (.tmp 8), none⟩, ⟨some 4, .mv (.tmp 64), none⟩, ⟨some 5, .mv (.const (.int .i64 0)), none⟩]) .ret)))))))
theorem low58 : lowF Try.prog [62] Try.f58 = some (65, lc58, [.tmp 4, .tmp 5]) := by kernel_rfl
theorem fn58 : FnOk Try.prog 58 65 lc58 [.tmp 4, .tmp 5] := ⟨Try.call58, [62], _, Try.func58, low58⟩
/-- moonpool/cable.SharpestIn -/
def lc59 : LCode :=
  (.seq (.region [⟨some 2, .box (.tmp 0), none⟩, ⟨some 4, .mv (.const (.int .i64 0)), none⟩, ⟨some 5, .alloc [(.int .i64 0), (.int .i64 0)], none⟩, ⟨some 6, .mv (.const (.int .i64
    0)), none⟩]) (.seq (.region [⟨some 13, .load true 3 (.tmp 2), none⟩, ⟨some 14, .mv (.tmp 1), none⟩, ⟨some 15, .call (.func 58) [(.tmp 13), (.tmp 14)], none⟩, ⟨some 12, .mv (.tmp
    15), none⟩, ⟨some 16, .ext (.tmp 12) 0, none⟩, ⟨some 17, .ext (.tmp 12) 1, none⟩, ⟨some 7, .mv (.tmp 16), none⟩, ⟨some 8, .mv (.tmp 17), none⟩]) (.seq (.seq (.region [⟨some 18,
    .mv (.tmp 8), none⟩, ⟨some 19, .mv (.tmp 7), none⟩, ⟨some 20, .len (.tmp 19), none⟩, ⟨some 21, .bin .gtr (.tmp 20) (.const (.int .i64 0)), none⟩, ⟨some 22, .call (.func 91)
    [(.tmp 21), (.const (.int .i64 12))], none⟩, ⟨some 23, .lit false 29 1 [(.tmp 18), (.tmp 22)], none⟩, ⟨some 24, .call (.func 90) [(.tmp 23)], none⟩, ⟨some 8, .mv (.tmp 24),
    none⟩]) (.seq (.region [⟨some 25, .mv (.tmp 8), none⟩, ⟨some 26, .bin .neq (.tmp 25) (.const (.int .i64 0)), none⟩]) (.cond (.tmp 26) (.seq (.region [⟨some 27, .build [(.int
    .i64 0), (.int .i64 0)] [], none⟩, ⟨some 28, .mv (.tmp 8), none⟩, ⟨some 4, .mv (.const (.int .i64 0)), none⟩, ⟨none, .store 2 (.tmp 5) (.tmp 27), none⟩, ⟨some 6, .mv (.tmp 28),
    none⟩]) .ret) .skip))) (.seq (.region [⟨some 9, .mv (.const (.int .i64 0)), none⟩]) (.seq (.seq (.region [⟨some 29, .mv (.tmp 7), none⟩, ⟨some 30, .len (.tmp 29), none⟩, ⟨some
    31, .mv (.const (.int .i64 0)), none⟩]) (.block 0 (.loop (.seq (.region [⟨some 32, .bin .lss (.tmp 31) (.tmp 30), none⟩]) (.seq (.cond (.tmp 32) .skip (.exit 0)) (.seq (.block 1
    (.seq (.region [⟨some 33, .mv (.tmp 31), none⟩, ⟨some 34, .idx 2 (.tmp 29) (.tmp 31), none⟩, ⟨some 35, .load true 2 (.tmp 34), none⟩, ⟨some 11, .alloc [(.int .i64 0), (.int .i64
    0)], none⟩, ⟨some 10, .mv (.tmp 33), none⟩, ⟨none, .store 2 (.tmp 11) (.tmp 35), none⟩]) (.seq (.regionD [⟨some 36, .mv (.tmp 7), none⟩, ⟨some 37, .mv (.tmp 9), none⟩, ⟨some 38,
    .idx 2 (.tmp 36) (.tmp 37), none⟩, ⟨some 39, .load true 2 (.tmp 38), none⟩, ⟨some 40, .load true 2 (.tmp 11), none⟩, ⟨some 41, .call (.func 120) [(.tmp 39), (.tmp 40)], none⟩]
    [0, 0, 3, 7, 0, 31] [0, 1, 2, 3, 4, 5]) (.cond (.tmp 41) (.region [⟨some 42, .mv (.tmp 10), none⟩, ⟨some 9, .mv (.tmp 42), none⟩]) .skip)))) (.region [⟨some 43, .bin .add (.tmp
    31) (.const (.int .i64 1)), none⟩, ⟨some 31, .mv (.tmp 43), none⟩]))))))) (.seq (.regionD [⟨some 44, .mv (.tmp 9), none⟩, ⟨some 45, .mv (.tmp 7), none⟩, ⟨some 46, .mv (.tmp 9),
    none⟩, ⟨some 47, .idx 2 (.tmp 45) (.tmp 46), none⟩, ⟨some 48, .load true 2 (.tmp 47), none⟩, ⟨some 4, .mv (.tmp 44), none⟩, ⟨none, .store 2 (.tmp 5) (.tmp 48), none⟩, ⟨some 6,
    .mv (.const (.int .i64 0)), none⟩] [0, 0, 0, 6, 14, 1, 63, 127] [0, 1, 2, 3, 4, 5, 6, 7]) .ret))))))
theorem low59 : lowF Try.prog [] Try.f59 = some (49, lc59, [.tmp 4, .cell 5 true 2, .tmp 6]) := by kernel_rfl
theorem fn59 : FnOk Try.prog 59 49 lc59 [.tmp 4, .cell 5 true 2, .tmp 6] := ⟨Try.call59, [], _, Try.func59, low59⟩
end Go.Pw

set_option linter.unusedVariables false
set_option maxHeartbeats 2000000
set_option maxRecDepth 100000
namespace Go.Pw
open Go Go.Proofs
/-- moonpool/moonpoolbase.Fracs -/
def lc62 : LCode :=
  (.seq (.region [⟨some 4, .mv (.const (.bool false)), none⟩]) (.seq (.seq (.region [⟨some 6, .mv (.tmp 0), none⟩, ⟨some 7, .len (.tmp 6), none⟩, ⟨some 8, .mv (.tmp 1), none⟩, ⟨some
    9, .len (.tmp 8), none⟩, ⟨some 10, .bin .neq (.tmp 7) (.tmp 9), none⟩]) (.cond (.tmp 10) (.seq (.region [⟨some 4, .mv (.const (.bool false)), none⟩]) .ret) .skip)) (.seq (.seq
    (.region [⟨some 5, .mv (.const (.int .i64 0)), none⟩]) (.block 0 (.loop (.seq (.seq (.region [⟨some 11, .mv (.tmp 5), none⟩, ⟨some 12, .mv (.tmp 0), none⟩, ⟨some 13, .len (.tmp
    12), none⟩, ⟨some 14, .bin .lss (.tmp 11) (.tmp 13), none⟩]) (.cond (.tmp 14) .skip (.exit 0))) (.seq (.block 1 (.seq (.regionD [⟨some 17, .mv (.tmp 0), none⟩, ⟨some 18, .mv
    (.tmp 5), none⟩, ⟨some 19, .idx 2 (.tmp 17) (.tmp 18), none⟩, ⟨some 20, .load true 2 (.tmp 19), none⟩, ⟨some 21, .mv (.tmp 1), none⟩, ⟨some 22, .mv (.tmp 5), none⟩, ⟨some 23,
    .idx 2 (.tmp 21) (.tmp 22), none⟩, ⟨some 24, .load true 2 (.tmp 23), none⟩, ⟨some 25, .eqA true 2 (.tmp 20) (.tmp 24), none⟩] [0, 0, 3, 7, 0, 0, 48, 112, 255] [0, 1, 2, 3, 4, 5,
    6, 7, 8]) (.cond (.tmp 25) (.seq (.region [⟨some 4, .mv (.const (.bool false)), none⟩]) .ret) .skip))) (.region [⟨some 15, .mv (.tmp 5), none⟩, ⟨some 16, .bin .add (.tmp 15)
    (.const (.int .i64 1)), none⟩, ⟨some 5, .mv (.tmp 16), none⟩])))))) (.seq (.region [⟨some 4, .mv (.const (.bool true)), none⟩]) .ret))))
theorem low62 : lowF Try.prog [] Try.f62 = some (26, lc62, [.tmp 4]) := by kernel_rfl
theorem fn62 : FnOk Try.prog 62 26 lc62 [.tmp 4] := ⟨Try.call62, [], _, Try.func62, low62⟩
/-- moonpool/moonpoolbase.Mod -/
def lc67 : LCode :=
  (.seq (.region [⟨some 4, .mv (.const (.int .i64 0)), none⟩]) (.seq (.region [⟨some 5, .mv (.tmp 0), none⟩, ⟨some 6, .mv (.tmp 1), none⟩, ⟨some 7, .bin .rem (.tmp 5) (.tmp 6),
    none⟩, ⟨some 0, .mv (.tmp 7), none⟩]) (.seq (.seq (.region [⟨some 8, .mv (.tmp 0), none⟩, ⟨some 9, .bin .lss (.tmp 8) (.const (.int .i64 0)), none⟩]) (.cond (.tmp 9) (.region
    [⟨some 10, .mv (.tmp 0), none⟩, ⟨some 11, .mv (.tmp 1), none⟩, ⟨some 12, .bin .add (.tmp 10) (.tmp 11), none⟩, ⟨some 0, .mv (.tmp 12), none⟩]) .skip)) (.seq (.region [⟨some 13,
    .mv (.tmp 0), none⟩, ⟨some 4, .mv (.tmp 13), none⟩]) .ret))))
theorem low67 : lowF Try.prog [] Try.f67 = some (14, lc67, [.tmp 4]) := by kernel_rfl
theorem fn67 : FnOk Try.prog 67 14 lc67 [.tmp 4] := ⟨Try.call67, [], _, Try.func67, low67⟩
/-- moonpool/cable.LaybackIn -/
def lc70 : LCode :=
  (.seq (.region [⟨some 2, .box (.tmp 0), none⟩, ⟨some 4, .alloc [(.int .i64 0), (.int .i64 0)], none⟩, ⟨some 5, .mv (.const (.int .i64 0)), none⟩]) (.seq (.region [⟨some 9, .load
    true 3 (.tmp 2), none⟩, ⟨some 10, .mv (.tmp 1), none⟩, ⟨some 11, .call (.func 127) [(.tmp 9), (.tmp 10)], none⟩, ⟨some 12, .ext (.tmp 11) 0, none⟩, ⟨some 13, .ext (.tmp 11) 1,
    none⟩, ⟨some 14, .call (.func 116) [(.tmp 12), (.tmp 13)], none⟩, ⟨some 8, .mv (.tmp 14), none⟩, ⟨some 15, .ext (.tmp 8) 0, none⟩, ⟨some 16, .ext (.tmp 8) 1, none⟩, ⟨some 6,
    .alloc [(.int .i64 0), (.int .i64 0), (.slice none 0 0), (.slice none 0 0)], none⟩, ⟨none, .store 4 (.tmp 6) (.tmp 15), none⟩, ⟨some 7, .mv (.tmp 16), none⟩]) (.seq (.seq
    (.region [⟨some 17, .mv (.tmp 7), none⟩, ⟨some 18, .bin .neq (.tmp 17) (.const (.int .i64 0)), none⟩]) (.cond (.tmp 18) (.seq (.region [⟨some 19, .build [(.int .i64 0), (.int
    .i64 0)] [], none⟩, ⟨some 20, .mv (.tmp 7), none⟩, ⟨none, .store 2 (.tmp 4) (.tmp 19), none⟩, ⟨some 5, .mv (.tmp 20), none⟩]) .ret) .skip)) (.seq (.region [⟨some 21, .load true
    4 (.tmp 6), none⟩, ⟨some 22, .call (.func 118) [(.tmp 21)], none⟩, ⟨none, .store 2 (.tmp 4) (.tmp 22), none⟩, ⟨some 5, .mv (.const (.int .i64 0)), none⟩]) .ret))))
theorem low70 : lowF Try.prog [] Try.f70 = some (23, lc70, [.cell 4 true 2, .tmp 5]) := by kernel_rfl
theorem fn70 : FnOk Try.prog 70 23 lc70 [.cell 4 true 2, .tmp 5] := ⟨Try.call70, [], _, Try.func70, low70⟩
/-- moonpool/moonpoollaw01.Line -/
def lc85 : LCode :=
  (.seq (.region [⟨some 0, .alloc [(.int .i64 0), (.int .i64 0), (.slice none 0 0)], none⟩]) (.seq (.region [⟨some 1, .build [(.int .i64 0), (.int .i64 0)] [(1, 1, (.const (.int
    .i64 100)))], none⟩, ⟨some 2, .build [(.int .i64 0), (.int .i64 0), (.int .i64 0)] [(0, 1, (.const (.int .i64 10))), (1, 1, (.const (.int .i64 20))), (2, 1, (.const (.int .i64
    3)))], none⟩, ⟨some 3, .build [(.int .i64 0), (.int .i64 0), (.int .i64 0)] [(0, 1, (.const (.int .i64 10))), (1, 1, (.const (.int .i64 (-20)))), (2, 1, (.const (.int .i64
    5)))], none⟩, ⟨some 4, .build [(.int .i64 0), (.int .i64 0), (.int .i64 0)] [(0, 1, (.const (.int .i64 5)))], none⟩, ⟨some 5, .lit false 99 3 [(.tmp 2), (.tmp 3), (.tmp 4)],
    none⟩, ⟨some 6, .build [(.int .i64 0), (.int .i64 0), (.slice none 0 0)] [(0, 2, (.tmp 1)), (2, 1, (.tmp 5))], none⟩, ⟨none, .store 3 (.tmp 0) (.tmp 6), none⟩]) .ret))
theorem low85 : lowF Try.prog [] Try.f85 = some (7, lc85, [.cell 0 true 3]) := by kernel_rfl
theorem fn85 : FnOk Try.prog 85 7 lc85 [.cell 0 true 3] := ⟨Try.call85, [], _, Try.func85, low85⟩
/-- moonpool/moonpoollaw01.Currents -/
def lc86 : LCode :=
  (.seq (.region [⟨some 0, .mv (.const (.slice none 0 0)), none⟩]) (.seq (.region [⟨some 1, .lit false 3 1 [(.const (.int .i64 4)), (.const (.int .i64 (-2))), (.const (.int .i64
    7))], none⟩, ⟨some 0, .mv (.tmp 1), none⟩]) .ret))
theorem low86 : lowF Try.prog [] Try.f86 = some (2, lc86, [.tmp 0]) := by kernel_rfl
theorem fn86 : FnOk Try.prog 86 2 lc86 [.tmp 0] := ⟨Try.call86, [], _, Try.func86, low86⟩
/-- moonpool/moonpoollaw01.Box -/
def lc87 : LCode :=
  (.seq (.region [⟨some 0, .mv (.const (.slice none 0 0)), none⟩]) (.seq (.region [⟨some 1, .build [(.int .i64 0), (.int .i64 0)] [(0, 1, (.const (.int .i64 2))), (1, 1, (.const
    (.int .i64 4)))], none⟩, ⟨some 2, .build [(.int .i64 0), (.int .i64 0)] [(0, 1, (.const (.int .i64 (-2)))), (1, 1, (.const (.int .i64 0)))], none⟩, ⟨some 3, .build [(.int .i64
    0), (.int .i64 0)] [(0, 1, (.const (.int .i64 0))), (1, 1, (.const (.int .i64 9)))], none⟩, ⟨some 4, .lit false 85 2 [(.tmp 1), (.tmp 2), (.tmp 3)], none⟩, ⟨some 0, .mv (.tmp
    4), none⟩]) .ret))
theorem low87 : lowF Try.prog [] Try.f87 = some (5, lc87, [.tmp 0]) := by kernel_rfl
theorem fn87 : FnOk Try.prog 87 5 lc87 [.tmp 0] := ⟨Try.call87, [], _, Try.func87, low87⟩
/-- moonpool/cable.pathErr -/
def lc88 : LCode :=
  (.seq (.region [⟨some 2, .mv (.const (.int .i64 0)), none⟩]) (.seq (.region [⟨some 4, .mv (.tmp 0), none⟩, ⟨some 5, .call (.func 136) [(.tmp 4), (.func 137)], none⟩, ⟨some 3, .mv
    (.tmp 5), none⟩]) (.seq (.region [⟨some 6, .mv (.tmp 0), none⟩, ⟨some 7, .len (.tmp 6), none⟩, ⟨some 8, .bin .gtr (.tmp 7) (.const (.int .i64 0)), none⟩, ⟨some 9, .call (.func
    91) [(.tmp 8), (.const (.int .i64 10))], none⟩, ⟨some 10, .mv (.tmp 0), none⟩, ⟨some 11, .len (.tmp 10), none⟩, ⟨some 12, .bin .leq (.tmp 11) (.const (.int .i64 30)), none⟩,
    ⟨some 13, .call (.func 91) [(.tmp 12), (.const (.int .i64 8))], none⟩, ⟨some 14, .mv (.tmp 3), none⟩, ⟨some 15, .un .not (.tmp 14), none⟩, ⟨some 16, .call (.func 91) [(.tmp 15),
    (.const (.int .i64 2))], none⟩, ⟨some 17, .lit false 29 1 [(.tmp 9), (.tmp 13), (.tmp 16)], none⟩, ⟨some 18, .call (.func 90) [(.tmp 17)], none⟩, ⟨some 2, .mv (.tmp 18), none⟩])
    .ret)))
theorem low88 : lowF Try.prog [] Try.f88 = some (19, lc88, [.tmp 2]) := by kernel_rfl
theorem fn88 : FnOk Try.prog 88 19 lc88 [.tmp 2] := ⟨Try.call88, [], _, Try.func88, low88⟩
/-- moonpool/cable.wound -/
def lc89 : LCode :=
  (.seq (.region [⟨some 3, .box (.tmp 1), none⟩, ⟨some 4, .mv (.const (.int .i64 0)), none⟩, ⟨some 5, .mv (.const (.int .i64 0)), none⟩]) (.seq (.seq (.region [⟨some 8, .load true 2
    (.tmp 3), none⟩, ⟨some 9, .call (.func 138) [(.tmp 8)], none⟩, ⟨some 10, .un .not (.tmp 9), none⟩]) (.cond (.tmp 10) (.seq (.region [⟨some 4, .mv (.const (.int .i64 0)), none⟩,
    ⟨some 5, .mv (.const (.int .i64 2)), none⟩]) .ret) .skip)) (.seq (.region [⟨some 12, .mv (.tmp 0), none⟩, ⟨some 13, .load true 2 (.tmp 3), none⟩, ⟨some 14, .call (.func 139)
    [(.tmp 12), (.tmp 13)], none⟩, ⟨some 11, .mv (.tmp 14), none⟩, ⟨some 15, .ext (.tmp 11) 0, none⟩, ⟨some 16, .ext (.tmp 11) 1, none⟩, ⟨some 6, .mv (.tmp 15), none⟩, ⟨some 7, .mv
    (.tmp 16), none⟩]) (.seq (.region [⟨some 17, .mv (.tmp 6), none⟩, ⟨some 18, .mv (.tmp 7), none⟩, ⟨some 19, .call (.func 91) [(.tmp 18), (.const (.int .i64 13))], none⟩, ⟨some 4,
    .mv (.tmp 17), none⟩, ⟨some 5, .mv (.tmp 19), none⟩]) .ret))))
theorem low89 : lowF Try.prog [] Try.f89 = some (20, lc89, [.tmp 4, .tmp 5]) := by kernel_rfl
theorem fn89 : FnOk Try.prog 89 20 lc89 [.tmp 4, .tmp 5] := ⟨Try.call89, [], _, Try.func89, low89⟩
/-- moonpool/cable.first -/
def lc90 : LCode :=
  (.seq (.region [⟨some 2, .mv (.const (.int .i64 0)), none⟩]) (.seq (.seq (.region [⟨some 5, .mv (.tmp 0), none⟩, ⟨some 6, .len (.tmp 5), none⟩, ⟨some 7, .mv (.const (.int .i64
    0)), none⟩]) (.block 0 (.loop (.seq (.region [⟨some 8, .bin .lss (.tmp 7) (.tmp 6), none⟩]) (.seq (.cond (.tmp 8) .skip (.exit 0)) (.seq (.block 1 (.seq (.region [⟨some 9, .idx
    1 (.tmp 5) (.tmp 7), none⟩, ⟨some 10, .load false 1 (.tmp 9), none⟩, ⟨some 4, .mv (.tmp 10), none⟩]) (.seq (.region [⟨some 11, .mv (.tmp 4), none⟩, ⟨some 12, .bin .neq (.tmp 11)
    (.const (.int .i64 0)), none⟩]) (.cond (.tmp 12) (.seq (.region [⟨some 13, .mv (.tmp 4), none⟩, ⟨some 2, .mv (.tmp 13), none⟩]) .ret) .skip)))) (.region [⟨some 14, .bin .add
    (.tmp 7) (.const (.int .i64 1)), none⟩, ⟨some 7, .mv (.tmp 14), none⟩]))))))) (.seq (.region [⟨some 2, .mv (.const (.int .i64 0)), none⟩]) .ret)))
theorem low90 : lowF Try.prog [] Try.f90 = some (15, lc90, [.tmp 2]) := by kernel_rfl
theorem fn90 : FnOk Try.prog 90 15 lc90 [.tmp 2] := ⟨Try.call90, [], _, Try.func90, low90⟩
/-- moonpool/cable.unless -/
def lc91 : LCode :=
  (.seq (.region [⟨some 4, .mv (.const (.int .i64 0)), none⟩]) (.seq (.seq (.region [⟨some 5, .mv (.tmp 0), none⟩]) (.cond (.tmp 5) (.seq (.region [⟨some 4, .mv (.const (.int .i64
    0)), none⟩]) .ret) .skip)) (.seq (.region [⟨some 6, .mv (.tmp 1), none⟩, ⟨some 4, .mv (.tmp 6), none⟩]) .ret)))
theorem low91 : lowF Try.prog [] Try.f91 = some (7, lc91, [.tmp 4]) := by kernel_rfl
theorem fn91 : FnOk Try.prog 91 7 lc91 [.tmp 4] := ⟨Try.call91, [], _, Try.func91, low91⟩
/-- moonpool/cable.open -/
def lc95 : LCode :=
  (.seq (.region [⟨some 2, .box (.tmp 0), none⟩, ⟨some 4, .alloc [(.int .i64 0), (.int .i64 0), (.slice none 0 0), (.slice none 0 0)], none⟩, ⟨some 5, .mv (.const (.int .i64 0)),
    none⟩]) (.seq (.region [⟨some 12, .load true 3 (.tmp 2), none⟩, ⟨some 13, .call (.func 46) [(.tmp 12)], none⟩, ⟨some 11, .mv (.tmp 13), none⟩, ⟨some 14, .ext (.tmp 11) 0, none⟩,
    ⟨some 15, .ext (.tmp 11) 1, none⟩, ⟨some 6, .mv (.tmp 14), none⟩, ⟨some 7, .mv (.tmp 15), none⟩]) (.seq (.seq (.region [⟨some 16, .mv (.tmp 7), none⟩, ⟨some 17, .mv (.tmp 1),
    none⟩, ⟨some 18, .len (.tmp 17), none⟩, ⟨some 19, .fld 2 (.tmp 2), none⟩, ⟨some 20, .load false 1 (.tmp 19), none⟩, ⟨some 21, .len (.tmp 20), none⟩, ⟨some 22, .bin .eql (.tmp
    18) (.tmp 21), none⟩, ⟨some 23, .call (.func 91) [(.tmp 22), (.const (.int .i64 10))], none⟩, ⟨some 24, .lit false 29 1 [(.tmp 16), (.tmp 23)], none⟩, ⟨some 25, .call (.func 90)
    [(.tmp 24)], none⟩, ⟨some 7, .mv (.tmp 25), none⟩]) (.seq (.region [⟨some 26, .mv (.tmp 7), none⟩, ⟨some 27, .bin .neq (.tmp 26) (.const (.int .i64 0)), none⟩]) (.cond (.tmp 27)
    (.seq (.region [⟨some 28, .build [(.int .i64 0), (.int .i64 0), (.slice none 0 0), (.slice none 0 0)] [], none⟩, ⟨some 29, .mv (.tmp 7), none⟩, ⟨none, .store 4 (.tmp 4) (.tmp
    28), none⟩, ⟨some 5, .mv (.tmp 29), none⟩]) .ret) .skip))) (.seq (.region [⟨some 31, .mv (.tmp 1), none⟩, ⟨some 32, .call (.func 102) [(.tmp 31), (.func 140)], none⟩, ⟨some 30,
    .mv (.tmp 32), none⟩, ⟨some 33, .ext (.tmp 30) 0, none⟩, ⟨some 34, .ext (.tmp 30) 1, none⟩, ⟨some 7, .mv (.tmp 34), none⟩]) (.seq (.region [⟨some 35, .load true 3 (.tmp 2),
    none⟩, ⟨some 36, .build [(.int .i64 0), (.int .i64 0), (.slice none 0 0), (.slice none 0 0)] [(0, 3, (.tmp 35))], none⟩, ⟨some 8, .alloc [(.int .i64 0), (.int .i64 0), (.slice
    none 0 0), (.slice none 0 0)], none⟩, ⟨none, .store 4 (.tmp 8) (.tmp 36), none⟩]) (.seq (.seq (.region [⟨some 37, .mv (.tmp 1), none⟩, ⟨some 38, .len (.tmp 37), none⟩, ⟨some 39,
    .mv (.const (.int .i64 0)), none⟩]) (.block 0 (.loop (.seq (.region [⟨some 40, .bin .lss (.tmp 39) (.tmp 38), none⟩]) (.seq (.cond (.tmp 40) .skip (.exit 0)) (.seq (.block 1
    (.seq (.region [⟨some 41, .idx 1 (.tmp 37) (.tmp 39), none⟩, ⟨some 42, .load false 1 (.tmp 41), none⟩, ⟨some 10, .mv (.tmp 42), none⟩]) (.region [⟨some 43, .fld 3 (.tmp 8),
    none⟩, ⟨some 44, .load false 1 (.tmp 43), none⟩, ⟨some 45, .mv (.tmp 10), none⟩, ⟨some 46, .mv (.tmp 10), none⟩, ⟨some 47, .build [(.int .i64 0), (.int .i64 0)] [(0, 1, (.tmp
    45)), (1, 1, (.tmp 46))], none⟩, ⟨some 48, .lit false 85 2 [(.tmp 47)], none⟩, ⟨some 49, .append true 85 2 16 (.tmp 44) (.tmp 48), none⟩, ⟨some 50, .fld 3 (.tmp 8), none⟩,
    ⟨none, .store 1 (.tmp 50) (.tmp 49), none⟩]))) (.region [⟨some 51, .bin .add (.tmp 39) (.const (.int .i64 1)), none⟩, ⟨some 39, .mv (.tmp 51), none⟩]))))))) (.seq (.region
    [⟨some 52, .load true 4 (.tmp 8), none⟩, ⟨some 53, .mv (.tmp 7), none⟩, ⟨none, .store 4 (.tmp 4) (.tmp 52), none⟩, ⟨some 5, .mv (.tmp 53), none⟩]) .ret)))))))
theorem low95 : lowF Try.prog [49] Try.f95 = some (54, lc95, [.cell 4 true 4, .tmp 5]) := by kernel_rfl
theorem fn95 : FnOk Try.prog 95 54 lc95 [.cell 4 true 4, .tmp 5] := ⟨Try.call95, [49], _, Try.func95, low95⟩
def ra96 : LCode :=
  (.region [⟨some 5, .alloc [(.int .i64 0), (.int .i64 0), (.int .i64 0), (.int .i64 0)], none⟩, ⟨none, .store 4 (.tmp 5) (.tmp 9), none⟩])
def rb96 : LCode :=
  (.block 1 (.region [⟨some 10, .load false 1 (.tmp 3), none⟩, ⟨some 11, .fld 0 (.tmp 5), none⟩, ⟨some 12, .fld 0 (.tmp 11), none⟩, ⟨some 13, .load false 1 (.tmp 12), none⟩, ⟨some
    14, .fld 2 (.tmp 5), none⟩, ⟨some 15, .load false 1 (.tmp 14), none⟩, ⟨some 16, .build [(.int .i64 0), (.int .i64 0)] [(0, 1, (.tmp 13)), (1, 1, (.tmp 15))], none⟩, ⟨some 17,
    .lit false 46 2 [(.tmp 16)], none⟩, ⟨some 18, .append true 46 2 16 (.tmp 10) (.tmp 17), none⟩, ⟨none, .store 1 (.tmp 3) (.tmp 18), none⟩]))
/-- (moonpool/cable.line).tensions -/
def lc96 : LCode :=
  (.seq (.region [⟨some 1, .box (.tmp 0), none⟩, ⟨some 2, .mv (.const (.slice none 0 0)), none⟩]) (.seq (.region [⟨some 3, .alloc [(.slice none 0 0)], none⟩]) (.seq (.seq (.region
    [⟨some 6, .load true 4 (.tmp 1), none⟩, ⟨some 7, .call (.func 113) [(.tmp 6)], none⟩]) (.block 0 (.rangeFunc (.tmp 7) [8, 9] ra96 rb96))) (.seq (.region [⟨some 19, .load false 1
    (.tmp 3), none⟩, ⟨some 2, .mv (.tmp 19), none⟩]) .ret))))
theorem low96 : lowF Try.prog [18] Try.f96 = some (20, lc96, [.tmp 2]) := by kernel_rfl
theorem fn96 : FnOk Try.prog 96 20 lc96 [.tmp 2] := ⟨Try.call96, [18], _, Try.func96, low96⟩
/-- moonpool/cable.each[moonpool/api.CableForce] -/
def lc97 : LCode :=
  (.seq (.region [⟨some 4, .mv (.const (.int .i64 0)), none⟩, ⟨some 5, .mv (.const (.int .i64 0)), none⟩]) (.seq (.seq (.region [⟨some 9, .mv (.tmp 0), none⟩, ⟨some 10, .len (.tmp
    9), none⟩, ⟨some 11, .mv (.const (.int .i64 0)), none⟩]) (.block 0 (.loop (.seq (.region [⟨some 12, .bin .lss (.tmp 11) (.tmp 10), none⟩]) (.seq (.cond (.tmp 12) .skip (.exit
    0)) (.seq (.block 1 (.seq (.region [⟨some 13, .mv (.tmp 11), none⟩, ⟨some 14, .idx 2 (.tmp 9) (.tmp 11), none⟩, ⟨some 15, .load true 2 (.tmp 14), none⟩, ⟨some 7, .alloc [(.int
    .i64 0), (.int .i64 0)], none⟩, ⟨some 6, .mv (.tmp 13), none⟩, ⟨none, .store 2 (.tmp 7) (.tmp 15), none⟩]) (.seq (.region [⟨some 16, .mv (.tmp 1), none⟩, ⟨some 17, .mv (.tmp 6),
    none⟩, ⟨some 18, .load true 2 (.tmp 7), none⟩, ⟨some 19, .call (.tmp 16) [(.tmp 17), (.tmp 18)], none⟩, ⟨some 8, .mv (.tmp 19), none⟩]) (.seq (.region [⟨some 20, .mv (.tmp 8),
    none⟩, ⟨some 21, .bin .neq (.tmp 20) (.const (.int .i64 0)), none⟩]) (.cond (.tmp 21) (.seq (.region [⟨some 22, .mv (.tmp 6), none⟩, ⟨some 23, .mv (.tmp 8), none⟩, ⟨some 4, .mv
    (.tmp 22), none⟩, ⟨some 5, .mv (.tmp 23), none⟩]) .ret) .skip))))) (.region [⟨some 24, .bin .add (.tmp 11) (.const (.int .i64 1)), none⟩, ⟨some 11, .mv (.tmp 24), none⟩])))))))
    (.seq (.region [⟨some 4, .mv (.const (.int .i64 0)), none⟩, ⟨some 5, .mv (.const (.int .i64 0)), none⟩]) .ret)))
theorem low97 : lowF Try.prog [] Try.f97 = some (25, lc97, [.tmp 4, .tmp 5]) := by kernel_rfl
theorem fn97 : FnOk Try.prog 97 25 lc97 [.tmp 4, .tmp 5] := ⟨Try.call97, [], _, Try.func97, low97⟩
/-- moonpool/cable.square -/
def lc99 : LCode :=
  (.seq (.region [⟨some 1, .box (.tmp 0), none⟩, ⟨some 2, .mv (.const (.int .i64 0)), none⟩]) (.seq (.region [⟨some 3, .fld 0 (.tmp 1), none⟩, ⟨some 4, .load false 1 (.tmp 3),
    none⟩, ⟨some 5, .fld 0 (.tmp 1), none⟩, ⟨some 6, .load false 1 (.tmp 5), none⟩, ⟨some 7, .bin .mul (.tmp 4) (.tmp 6), none⟩, ⟨some 8, .fld 1 (.tmp 1), none⟩, ⟨some 9, .load
    false 1 (.tmp 8), none⟩, ⟨some 10, .fld 1 (.tmp 1), none⟩, ⟨some 11, .load false 1 (.tmp 10), none⟩, ⟨some 12, .bin .mul (.tmp 9) (.tmp 11), none⟩, ⟨some 13, .bin .add (.tmp 7)
    (.tmp 12), none⟩, ⟨some 2, .mv (.tmp 13), none⟩]) .ret))
theorem low99 : lowF Try.prog [] Try.f99 = some (14, lc99, [.tmp 2]) := by kernel_rfl
theorem fn99 : FnOk Try.prog 99 14 lc99 [.tmp 2] := ⟨Try.call99, [], _, Try.func99, low99⟩
/-- moonpool/moonpoolref01.isCurrent -/
def lc100 : LCode :=
  (.seq (.region [⟨some 2, .mv (.const (.bool false)), none⟩]) (.seq (.region [⟨some 3, .mv (.tmp 0), none⟩, ⟨some 4, .call (.func 16) [(.tmp 3), (.const (.int .i64 (-50))), (.const
    (.int .i64 50))], none⟩, ⟨some 2, .mv (.tmp 4), none⟩]) .ret))
theorem low100 : lowF Try.prog [] Try.f100 = some (5, lc100, [.tmp 2]) := by kernel_rfl
theorem fn100 : FnOk Try.prog 100 5 lc100 [.tmp 2] := ⟨Try.call100, [], _, Try.func100, low100⟩
/-- moonpool/cable.each[int] -/
def lc102 : LCode :=
  (.seq (.region [⟨some 4, .mv (.const (.int .i64 0)), none⟩, ⟨some 5, .mv (.const (.int .i64 0)), none⟩]) (.seq (.seq (.region [⟨some 9, .mv (.tmp 0), none⟩, ⟨some 10, .len (.tmp
    9), none⟩, ⟨some 11, .mv (.const (.int .i64 0)), none⟩]) (.block 0 (.loop (.seq (.region [⟨some 12, .bin .lss (.tmp 11) (.tmp 10), none⟩]) (.seq (.cond (.tmp 12) .skip (.exit
    0)) (.seq (.block 1 (.seq (.region [⟨some 13, .mv (.tmp 11), none⟩, ⟨some 14, .idx 1 (.tmp 9) (.tmp 11), none⟩, ⟨some 15, .load false 1 (.tmp 14), none⟩, ⟨some 6, .mv (.tmp 13),
    none⟩, ⟨some 7, .mv (.tmp 15), none⟩]) (.seq (.region [⟨some 16, .mv (.tmp 1), none⟩, ⟨some 17, .mv (.tmp 6), none⟩, ⟨some 18, .mv (.tmp 7), none⟩, ⟨some 19, .call (.tmp 16)
    [(.tmp 17), (.tmp 18)], none⟩, ⟨some 8, .mv (.tmp 19), none⟩]) (.seq (.region [⟨some 20, .mv (.tmp 8), none⟩, ⟨some 21, .bin .neq (.tmp 20) (.const (.int .i64 0)), none⟩])
    (.cond (.tmp 21) (.seq (.region [⟨some 22, .mv (.tmp 6), none⟩, ⟨some 23, .mv (.tmp 8), none⟩, ⟨some 4, .mv (.tmp 22), none⟩, ⟨some 5, .mv (.tmp 23), none⟩]) .ret) .skip)))))
    (.region [⟨some 24, .bin .add (.tmp 11) (.const (.int .i64 1)), none⟩, ⟨some 11, .mv (.tmp 24), none⟩]))))))) (.seq (.region [⟨some 4, .mv (.const (.int .i64 0)), none⟩, ⟨some
    5, .mv (.const (.int .i64 0)), none⟩]) .ret)))
theorem low102 : lowF Try.prog [] Try.f102 = some (25, lc102, [.tmp 4, .tmp 5]) := by kernel_rfl
theorem fn102 : FnOk Try.prog 102 25 lc102 [.tmp 4, .tmp 5] := ⟨Try.call102, [], _, Try.func102, low102⟩
/-- moonpool/cable.within -/
def lc104 : LCode :=
  (.seq (.region [⟨some 6, .mv (.const (.bool false)), none⟩]) (.seq (.region [⟨some 7, .mv (.tmp 1), none⟩, ⟨some 8, .mv (.tmp 0), none⟩, ⟨some 9, .bin .leq (.tmp 7) (.tmp 8),
    none⟩, ⟨some 10, .mv (.tmp 9), none⟩, ⟨some 11, .mv (.tmp 0), some (10, true)⟩, ⟨some 12, .mv (.tmp 2), some (10, true)⟩, ⟨some 13, .bin .leq (.tmp 11) (.tmp 12), some (10,
    true)⟩, ⟨some 14, .pick (.tmp 10) (.tmp 13) (.const (.bool false)), none⟩, ⟨some 6, .mv (.tmp 14), none⟩]) .ret))
theorem low104 : lowF Try.prog [] Try.f104 = some (15, lc104, [.tmp 6]) := by kernel_rfl
theorem fn104 : FnOk Try.prog 104 15 lc104 [.tmp 6] := ⟨Try.call104, [], _, Try.func104, low104⟩
/-- moonpool/cable.isSized -/
def lc106 : LCode :=
  (.seq (.region [⟨some 4, .mv (.const (.bool false)), none⟩]) (.seq (.region [⟨some 5, .mv (.tmp 0), none⟩, ⟨some 6, .mv (.tmp 1), none⟩, ⟨some 7, .un .neg (.tmp 6), none⟩, ⟨some
    8, .mv (.tmp 1), none⟩, ⟨some 9, .call (.func 104) [(.tmp 5), (.tmp 7), (.tmp 8)], none⟩, ⟨some 4, .mv (.tmp 9), none⟩]) .ret))
theorem low106 : lowF Try.prog [] Try.f106 = some (10, lc106, [.tmp 4]) := by kernel_rfl
theorem fn106 : FnOk Try.prog 106 10 lc106 [.tmp 4] := ⟨Try.call106, [], _, Try.func106, low106⟩
/-- moonpool/cable.each[moonpool/api.CableLink] -/
def lc107 : LCode :=
  (.seq (.region [⟨some 4, .mv (.const (.int .i64 0)), none⟩, ⟨some 5, .mv (.const (.int .i64 0)), none⟩]) (.seq (.seq (.region [⟨some 9, .mv (.tmp 0), none⟩, ⟨some 10, .len (.tmp
    9), none⟩, ⟨some 11, .mv (.const (.int .i64 0)), none⟩]) (.block 0 (.loop (.seq (.region [⟨some 12, .bin .lss (.tmp 11) (.tmp 10), none⟩]) (.seq (.cond (.tmp 12) .skip (.exit
    0)) (.seq (.block 1 (.seq (.region [⟨some 13, .mv (.tmp 11), none⟩, ⟨some 14, .idx 3 (.tmp 9) (.tmp 11), none⟩, ⟨some 15, .load true 3 (.tmp 14), none⟩, ⟨some 7, .alloc [(.int
    .i64 0), (.int .i64 0), (.int .i64 0)], none⟩, ⟨some 6, .mv (.tmp 13), none⟩, ⟨none, .store 3 (.tmp 7) (.tmp 15), none⟩]) (.seq (.region [⟨some 16, .mv (.tmp 1), none⟩, ⟨some
    17, .mv (.tmp 6), none⟩, ⟨some 18, .load true 3 (.tmp 7), none⟩, ⟨some 19, .call (.tmp 16) [(.tmp 17), (.tmp 18)], none⟩, ⟨some 8, .mv (.tmp 19), none⟩]) (.seq (.region [⟨some
    20, .mv (.tmp 8), none⟩, ⟨some 21, .bin .neq (.tmp 20) (.const (.int .i64 0)), none⟩]) (.cond (.tmp 21) (.seq (.region [⟨some 22, .mv (.tmp 6), none⟩, ⟨some 23, .mv (.tmp 8),
    none⟩, ⟨some 4, .mv (.tmp 22), none⟩, ⟨some 5, .mv (.tmp 23), none⟩]) .ret) .skip))))) (.region [⟨some 24, .bin .add (.tmp 11) (.const (.int .i64 1)), none⟩, ⟨some 11, .mv (.tmp
    24), none⟩]))))))) (.seq (.region [⟨some 4, .mv (.const (.int .i64 0)), none⟩, ⟨some 5, .mv (.const (.int .i64 0)), none⟩]) .ret)))
theorem low107 : lowF Try.prog [] Try.f107 = some (25, lc107, [.tmp 4, .tmp 5]) := by kernel_rfl
theorem fn107 : FnOk Try.prog 107 25 lc107 [.tmp 4, .tmp 5] := ⟨Try.call107, [], _, Try.func107, low107⟩
/-- moonpool/cable.CheckLine$1 -/
def lc108 : LCode :=
  (.seq (.region [⟨some 3, .box (.tmp 1), none⟩, ⟨some 4, .mv (.const (.int .i64 0)), none⟩]) (.seq (.region [⟨some 6, .fld 0 (.tmp 3), none⟩, ⟨some 7, .load false 1 (.tmp 6),
    none⟩, ⟨some 8, .call (.func 104) [(.tmp 7), (.const (.int .i64 1)), (.const (.int .i64 1000))], none⟩, ⟨some 9, .mv (.tmp 8), none⟩, ⟨some 10, .fld 1 (.tmp 3), some (9, true)⟩,
    ⟨some 11, .load false 1 (.tmp 10), some (9, true)⟩, ⟨some 12, .call (.func 106) [(.tmp 11), (.const (.int .i64 1000))], some (9, true)⟩, ⟨some 13, .pick (.tmp 9) (.tmp 12)
    (.const (.bool false)), none⟩, ⟨some 14, .mv (.tmp 13), none⟩, ⟨some 15, .fld 2 (.tmp 3), some (14, true)⟩, ⟨some 16, .load false 1 (.tmp 15), some (14, true)⟩, ⟨some 17, .call
    (.func 104) [(.tmp 16), (.const (.int .i64 0)), (.const (.int .i64 20))], some (14, true)⟩, ⟨some 18, .pick (.tmp 14) (.tmp 17) (.const (.bool false)), none⟩, ⟨some 5, .mv (.tmp
    18), none⟩]) (.seq (.region [⟨some 19, .mv (.tmp 5), none⟩, ⟨some 20, .call (.func 91) [(.tmp 19), (.const (.int .i64 2))], none⟩, ⟨some 4, .mv (.tmp 20), none⟩]) .ret)))
theorem low108 : lowF Try.prog [] Try.f108 = some (21, lc108, [.tmp 4]) := by kernel_rfl
theorem fn108 : FnOk Try.prog 108 21 lc108 [.tmp 4] := ⟨Try.call108, [], _, Try.func108, low108⟩
/-- moonpool/cable.each[moonpool/api.Range] -/
def lc109 : LCode :=
  (.seq (.region [⟨some 4, .mv (.const (.int .i64 0)), none⟩, ⟨some 5, .mv (.const (.int .i64 0)), none⟩]) (.seq (.seq (.region [⟨some 9, .mv (.tmp 0), none⟩, ⟨some 10, .len (.tmp
    9), none⟩, ⟨some 11, .mv (.const (.int .i64 0)), none⟩]) (.block 0 (.loop (.seq (.region [⟨some 12, .bin .lss (.tmp 11) (.tmp 10), none⟩]) (.seq (.cond (.tmp 12) .skip (.exit
    0)) (.seq (.block 1 (.seq (.region [⟨some 13, .mv (.tmp 11), none⟩, ⟨some 14, .idx 2 (.tmp 9) (.tmp 11), none⟩, ⟨some 15, .load true 2 (.tmp 14), none⟩, ⟨some 7, .alloc [(.int
    .i64 0), (.int .i64 0)], none⟩, ⟨some 6, .mv (.tmp 13), none⟩, ⟨none, .store 2 (.tmp 7) (.tmp 15), none⟩]) (.seq (.region [⟨some 16, .mv (.tmp 1), none⟩, ⟨some 17, .mv (.tmp 6),
    none⟩, ⟨some 18, .load true 2 (.tmp 7), none⟩, ⟨some 19, .call (.tmp 16) [(.tmp 17), (.tmp 18)], none⟩, ⟨some 8, .mv (.tmp 19), none⟩]) (.seq (.region [⟨some 20, .mv (.tmp 8),
    none⟩, ⟨some 21, .bin .neq (.tmp 20) (.const (.int .i64 0)), none⟩]) (.cond (.tmp 21) (.seq (.region [⟨some 22, .mv (.tmp 6), none⟩, ⟨some 23, .mv (.tmp 8), none⟩, ⟨some 4, .mv
    (.tmp 22), none⟩, ⟨some 5, .mv (.tmp 23), none⟩]) .ret) .skip))))) (.region [⟨some 24, .bin .add (.tmp 11) (.const (.int .i64 1)), none⟩, ⟨some 11, .mv (.tmp 24), none⟩])))))))
    (.seq (.region [⟨some 4, .mv (.const (.int .i64 0)), none⟩, ⟨some 5, .mv (.const (.int .i64 0)), none⟩]) .ret)))
theorem low109 : lowF Try.prog [] Try.f109 = some (25, lc109, [.tmp 4, .tmp 5]) := by kernel_rfl
theorem fn109 : FnOk Try.prog 109 25 lc109 [.tmp 4, .tmp 5] := ⟨Try.call109, [], _, Try.func109, low109⟩
/-- moonpool/cable.CheckBox$1 -/
def lc110 : LCode :=
  (.seq (.region [⟨some 3, .box (.tmp 1), none⟩, ⟨some 4, .mv (.const (.int .i64 0)), none⟩]) (.seq (.regionD [⟨some 5, .fld 0 (.tmp 3), none⟩, ⟨some 6, .load false 1 (.tmp 5),
    none⟩, ⟨some 7, .call (.func 111) [(.tmp 6)], none⟩, ⟨some 8, .mv (.tmp 7), none⟩, ⟨some 9, .fld 1 (.tmp 3), some (8, true)⟩, ⟨some 10, .load false 1 (.tmp 9), some (8, true)⟩,
    ⟨some 11, .call (.func 111) [(.tmp 10)], some (8, true)⟩, ⟨some 12, .pick (.tmp 8) (.tmp 11) (.const (.bool false)), none⟩, ⟨some 13, .call (.func 91) [(.tmp 12), (.const (.int
    .i64 2))], none⟩, ⟨some 14, .fld 0 (.tmp 3), none⟩, ⟨some 15, .load false 1 (.tmp 14), none⟩, ⟨some 16, .fld 1 (.tmp 3), none⟩, ⟨some 17, .load false 1 (.tmp 16), none⟩, ⟨some
    18, .bin .leq (.tmp 15) (.tmp 17), none⟩, ⟨some 19, .call (.func 91) [(.tmp 18), (.const (.int .i64 9))], none⟩, ⟨some 20, .lit false 29 1 [(.tmp 13), (.tmp 19)], none⟩, ⟨some
    21, .call (.func 90) [(.tmp 20)], none⟩, ⟨some 4, .mv (.tmp 21), none⟩] [0, 1, 3, 7, 15, 31, 63, 127, 255, 0, 512, 0, 2048, 7680, 16383, 32767, 65535, 131071] [0, 1, 2, 3, 4, 5,
    6, 7, 8, 9, 10, 11, 12, 13, 14, 15, 16, 17]) .ret))
theorem low110 : lowF Try.prog [] Try.f110 = some (22, lc110, [.tmp 4]) := by kernel_rfl
theorem fn110 : FnOk Try.prog 110 22 lc110 [.tmp 4] := ⟨Try.call110, [], _, Try.func110, low110⟩
end Go.Pw

set_option linter.unusedVariables false
set_option maxHeartbeats 2000000
set_option maxRecDepth 100000
namespace Go.Pw
open Go Go.Proofs
/-- moonpool/cable.isCurrent -/
def lc111 : LCode :=
  (.seq (.region [⟨some 2, .mv (.const (.bool false)), none⟩]) (.seq (.region [⟨some 3, .mv (.tmp 0), none⟩, ⟨some 4, .call (.func 106) [(.tmp 3), (.const (.int .i64 50))], none⟩,
    ⟨some 2, .mv (.tmp 4), none⟩]) .ret))
theorem low111 : lowF Try.prog [] Try.f111 = some (5, lc111, [.tmp 2]) := by kernel_rfl
theorem fn111 : FnOk Try.prog 111 5 lc111 [.tmp 2] := ⟨Try.call111, [], _, Try.func111, low111⟩
/-- (moonpool/cable.line).pulls -/
def lc113 : LCode :=
  (.seq (.region [⟨some 1, .box (.tmp 0), none⟩, ⟨some 2, .mv (.const .nilFunc), none⟩]) (.seq (.region [⟨some 3, .mkfn 141 [(.tmp 1)], none⟩, ⟨some 2, .mv (.tmp 3), none⟩]) .ret))
theorem low113 : lowF Try.prog [] Try.f113 = some (4, lc113, [.tmp 2]) := by kernel_rfl
theorem fn113 : FnOk Try.prog 113 4 lc113 [.tmp 2] := ⟨Try.call113, [], _, Try.func113, low113⟩
/-- moonpool/cable.tight -/
def lc116 : LCode :=
  (.seq (.region [⟨some 2, .box (.tmp 0), none⟩, ⟨some 4, .alloc [(.int .i64 0), (.int .i64 0), (.slice none 0 0), (.slice none 0 0)], none⟩, ⟨some 5, .mv (.const (.int .i64 0)),
    none⟩]) (.seq (.seq (.region [⟨some 6, .mv (.tmp 1), none⟩, ⟨some 7, .bin .eql (.tmp 6) (.const (.int .i64 0)), none⟩]) (.cond (.tmp 7) (.region [⟨some 8, .load true 4 (.tmp 2),
    none⟩, ⟨some 9, .call (.func 142) [(.tmp 8)], none⟩, ⟨some 1, .mv (.tmp 9), none⟩]) .skip)) (.seq (.region [⟨some 10, .load true 4 (.tmp 2), none⟩, ⟨some 11, .mv (.tmp 1),
    none⟩, ⟨none, .store 4 (.tmp 4) (.tmp 10), none⟩, ⟨some 5, .mv (.tmp 11), none⟩]) .ret)))
theorem low116 : lowF Try.prog [] Try.f116 = some (12, lc116, [.cell 4 true 4, .tmp 5]) := by kernel_rfl
theorem fn116 : FnOk Try.prog 116 12 lc116 [.cell 4 true 4, .tmp 5] := ⟨Try.call116, [], _, Try.func116, low116⟩
/-- moonpool/cable.fraction -/
def lc117 : LCode :=
  (.seq (.region [⟨some 4, .alloc [(.int .i64 0), (.int .i64 0)], none⟩]) (.seq (.region [⟨some 6, .mv (.tmp 0), none⟩, ⟨some 7, .mv (.tmp 1), none⟩, ⟨some 8, .call (.func 143)
    [(.tmp 6), (.tmp 7)], none⟩, ⟨some 5, .mv (.tmp 8), none⟩]) (.seq (.regionD [⟨some 9, .mv (.tmp 0), none⟩, ⟨some 10, .mv (.tmp 5), none⟩, ⟨some 11, .bin .quo (.tmp 9) (.tmp 10),
    none⟩, ⟨some 12, .mv (.tmp 1), none⟩, ⟨some 13, .mv (.tmp 5), none⟩, ⟨some 14, .bin .quo (.tmp 12) (.tmp 13), none⟩, ⟨some 15, .build [(.int .i64 0), (.int .i64 0)] [(0, 1,
    (.tmp 11)), (1, 1, (.tmp 14))], none⟩, ⟨none, .store 2 (.tmp 4) (.tmp 15), none⟩] [0, 0, 3, 0, 0, 24, 63, 127] [0, 1, 2, 3, 4, 5, 6, 7]) .ret)))
theorem low117 : lowF Try.prog [] Try.f117 = some (16, lc117, [.cell 4 true 2]) := by kernel_rfl
theorem fn117 : FnOk Try.prog 117 16 lc117 [.cell 4 true 2] := ⟨Try.call117, [], _, Try.func117, low117⟩
def ra118 : LCode :=
  (.region [⟨some 5, .alloc [(.int .i64 0), (.int .i64 0), (.int .i64 0), (.int .i64 0)], none⟩, ⟨none, .store 4 (.tmp 5) (.tmp 9), none⟩])
def rb118 : LCode :=
  (.block 1 (.seq (.regionD [⟨some 10, .fld 0 (.tmp 3), none⟩, ⟨some 11, .load false 1 (.tmp 10), none⟩, ⟨some 12, .fld 3 (.tmp 5), none⟩, ⟨some 13, .load false 1 (.tmp 12), none⟩,
    ⟨some 14, .fld 0 (.tmp 5), none⟩, ⟨some 15, .fld 0 (.tmp 14), none⟩, ⟨some 16, .load false 1 (.tmp 15), none⟩, ⟨some 17, .bin .mul (.tmp 13) (.tmp 16), none⟩, ⟨some 18, .fld 2
    (.tmp 5), none⟩, ⟨some 19, .load false 1 (.tmp 18), none⟩, ⟨some 20, .call (.func 144) [(.tmp 17), (.tmp 19)], none⟩, ⟨some 21, .bin .add (.tmp 11) (.tmp 20), none⟩, ⟨some 22,
    .fld 0 (.tmp 3), none⟩, ⟨none, .store 1 (.tmp 22) (.tmp 21), none⟩] [0, 1, 0, 4, 0, 16, 48, 124, 0, 256, 1020, 2047, 4095, 8191] [0, 1, 2, 3, 4, 5, 6, 7, 8, 9, 10, 11, 12, 13])
    (.regionD [⟨some 23, .fld 1 (.tmp 3), none⟩, ⟨some 24, .load false 1 (.tmp 23), none⟩, ⟨some 25, .fld 3 (.tmp 5), none⟩, ⟨some 26, .load false 1 (.tmp 25), none⟩, ⟨some 27, .fld
    0 (.tmp 5), none⟩, ⟨some 28, .fld 1 (.tmp 27), none⟩, ⟨some 29, .load false 1 (.tmp 28), none⟩, ⟨some 30, .bin .mul (.tmp 26) (.tmp 29), none⟩, ⟨some 31, .fld 2 (.tmp 5), none⟩,
    ⟨some 32, .load false 1 (.tmp 31), none⟩, ⟨some 33, .call (.func 145) [(.tmp 30), (.tmp 32)], none⟩, ⟨some 34, .bin .add (.tmp 24) (.tmp 33), none⟩, ⟨some 35, .fld 1 (.tmp 3),
    none⟩, ⟨none, .store 1 (.tmp 35) (.tmp 34), none⟩] [0, 1, 0, 4, 0, 16, 48, 124, 0, 256, 1020, 2047, 4095, 8191] [0, 1, 2, 3, 4, 5, 6, 7, 8, 9, 10, 11, 12, 13])))
/-- (moonpool/cable.line).layback -/
def lc118 : LCode :=
  (.seq (.region [⟨some 1, .box (.tmp 0), none⟩, ⟨some 2, .alloc [(.int .i64 0), (.int .i64 0)], none⟩]) (.seq (.region [⟨some 3, .alloc [(.int .i64 0), (.int .i64 0)], none⟩])
    (.seq (.seq (.region [⟨some 6, .load true 4 (.tmp 1), none⟩, ⟨some 7, .call (.func 113) [(.tmp 6)], none⟩]) (.block 0 (.rangeFunc (.tmp 7) [8, 9] ra118 rb118))) (.seq (.region
    [⟨some 36, .load true 2 (.tmp 3), none⟩, ⟨none, .store 2 (.tmp 2) (.tmp 36), none⟩]) .ret))))
theorem low118 : lowF Try.prog [] Try.f118 = some (37, lc118, [.cell 2 true 2]) := by kernel_rfl
theorem fn118 : FnOk Try.prog 118 37 lc118 [.cell 2 true 2] := ⟨Try.call118, [], _, Try.func118, low118⟩
/-- (moonpool/cable.pull).length -/
def lc119 : LCode :=
  (.seq (.region [⟨some 2, .box (.tmp 0), none⟩, ⟨some 4, .alloc [(.int .i64 0), (.int .i64 0)], none⟩]) (.seq (.regionD [⟨some 9, .fld 3 (.tmp 2), none⟩, ⟨some 10, .load false 1
    (.tmp 9), none⟩, ⟨some 11, .fld 3 (.tmp 2), none⟩, ⟨some 12, .load false 1 (.tmp 11), none⟩, ⟨some 13, .bin .mul (.tmp 10) (.tmp 12), none⟩, ⟨some 14, .mv (.tmp 1), none⟩, ⟨some
    15, .mv (.tmp 1), none⟩, ⟨some 16, .bin .mul (.tmp 14) (.tmp 15), none⟩, ⟨some 17, .fld 2 (.tmp 2), none⟩, ⟨some 18, .load false 1 (.tmp 17), none⟩, ⟨some 19, .fld 2 (.tmp 2),
    none⟩, ⟨some 20, .load false 1 (.tmp 19), none⟩, ⟨some 21, .bin .mul (.tmp 18) (.tmp 20), none⟩, ⟨some 22, .bin .add (.tmp 16) (.tmp 21), none⟩, ⟨some 23, .bin .mul (.tmp 13)
    (.tmp 22), none⟩, ⟨some 24, .fld 2 (.tmp 2), none⟩, ⟨some 25, .load false 1 (.tmp 24), none⟩, ⟨some 26, .fld 2 (.tmp 2), none⟩, ⟨some 27, .load false 1 (.tmp 26), none⟩, ⟨some
    28, .bin .mul (.tmp 25) (.tmp 27), none⟩, ⟨some 5, .mv (.tmp 23), none⟩, ⟨some 6, .mv (.tmp 28), none⟩] [0, 1, 0, 4, 15, 0, 0, 96, 0, 256, 0, 1024, 3840, 8160, 16383, 0, 32768,
    0, 131072, 491520, 32767, 2097151] [0, 1, 2, 3, 4, 5, 6, 7, 8, 9, 10, 11, 12, 13, 14, 15, 16, 17, 18, 19, 20, 21]) (.seq (.region [⟨some 29, .mv (.tmp 5), none⟩, ⟨some 30, .mv
    (.tmp 6), none⟩, ⟨some 31, .bin .quo (.tmp 29) (.tmp 30), none⟩, ⟨some 32, .call (.func 146) [(.tmp 31)], none⟩, ⟨some 7, .mv (.tmp 32), none⟩]) (.seq (.region [⟨some 33, .mv
    (.tmp 7), none⟩, ⟨some 34, .mv (.tmp 7), none⟩, ⟨some 35, .build [(.int .i64 0), (.int .i64 0)] [(0, 1, (.tmp 33)), (1, 1, (.tmp 34))], none⟩, ⟨some 8, .alloc [(.int .i64 0),
    (.int .i64 0)], none⟩, ⟨none, .store 2 (.tmp 8) (.tmp 35), none⟩]) (.seq (.seq (.region [⟨some 36, .mv (.tmp 7), none⟩, ⟨some 37, .mv (.tmp 7), none⟩, ⟨some 38, .bin .mul (.tmp
    36) (.tmp 37), none⟩, ⟨some 39, .mv (.tmp 6), none⟩, ⟨some 40, .bin .mul (.tmp 38) (.tmp 39), none⟩, ⟨some 41, .mv (.tmp 5), none⟩, ⟨some 42, .bin .neq (.tmp 40) (.tmp 41),
    none⟩]) (.cond (.tmp 42) (.region [⟨some 43, .fld 1 (.tmp 8), none⟩, ⟨some 44, .load false 1 (.tmp 43), none⟩, ⟨some 45, .bin .add (.tmp 44) (.const (.int .i64 1)), none⟩, ⟨some
    46, .fld 1 (.tmp 8), none⟩, ⟨none, .store 1 (.tmp 46) (.tmp 45), none⟩]) .skip)) (.seq (.region [⟨some 47, .load true 2 (.tmp 8), none⟩, ⟨none, .store 2 (.tmp 4) (.tmp 47),
    none⟩]) .ret))))))
theorem low119 : lowF Try.prog [] Try.f119 = some (48, lc119, [.cell 4 true 2]) := by kernel_rfl
theorem fn119 : FnOk Try.prog 119 48 lc119 [.cell 4 true 2] := ⟨Try.call119, [], _, Try.func119, low119⟩
/-- moonpool/cable.isLess -/
def lc120 : LCode :=
  (.seq (.region [⟨some 2, .box (.tmp 0), none⟩, ⟨some 3, .box (.tmp 1), none⟩, ⟨some 4, .mv (.const (.bool false)), none⟩]) (.seq (.region [⟨some 10, .fld 0 (.tmp 2), none⟩, ⟨some
    11, .load false 1 (.tmp 10), none⟩, ⟨some 12, .conv .u64 (.tmp 11), none⟩, ⟨some 13, .fld 1 (.tmp 3), none⟩, ⟨some 14, .load false 1 (.tmp 13), none⟩, ⟨some 15, .conv .u64 (.tmp
    14), none⟩, ⟨some 16, .call (.func 147) [(.tmp 12), (.tmp 15)], none⟩, ⟨some 9, .mv (.tmp 16), none⟩, ⟨some 17, .ext (.tmp 9) 0, none⟩, ⟨some 18, .ext (.tmp 9) 1, none⟩, ⟨some
    5, .mv (.tmp 17), none⟩, ⟨some 6, .mv (.tmp 18), none⟩]) (.seq (.region [⟨some 20, .fld 0 (.tmp 3), none⟩, ⟨some 21, .load false 1 (.tmp 20), none⟩, ⟨some 22, .conv .u64 (.tmp
    21), none⟩, ⟨some 23, .fld 1 (.tmp 2), none⟩, ⟨some 24, .load false 1 (.tmp 23), none⟩, ⟨some 25, .conv .u64 (.tmp 24), none⟩, ⟨some 26, .call (.func 147) [(.tmp 22), (.tmp
    25)], none⟩, ⟨some 19, .mv (.tmp 26), none⟩, ⟨some 27, .ext (.tmp 19) 0, none⟩, ⟨some 28, .ext (.tmp 19) 1, none⟩, ⟨some 7, .mv (.tmp 27), none⟩, ⟨some 8, .mv (.tmp 28), none⟩])
    (.seq (.region [⟨some 29, .mv (.tmp 5), none⟩, ⟨some 30, .mv (.tmp 7), none⟩, ⟨some 31, .bin .lss (.tmp 29) (.tmp 30), none⟩, ⟨some 32, .mv (.tmp 31), none⟩, ⟨some 33, .mv (.tmp
    5), some (32, false)⟩, ⟨some 34, .mv (.tmp 7), some (32, false)⟩, ⟨some 35, .bin .eql (.tmp 33) (.tmp 34), some (32, false)⟩, ⟨some 36, .mv (.tmp 35), some (32, false)⟩, ⟨some
    37, .mv (.tmp 6), some (36, true)⟩, ⟨some 38, .mv (.tmp 8), some (36, true)⟩, ⟨some 39, .bin .lss (.tmp 37) (.tmp 38), some (36, true)⟩, ⟨some 40, .pick (.tmp 36) (.tmp 39)
    (.const (.bool false)), some (32, false)⟩, ⟨some 41, .pick (.tmp 32) (.const (.bool true)) (.tmp 40), none⟩, ⟨some 4, .mv (.tmp 41), none⟩]) .ret))))
theorem low120 : lowF Try.prog [] Try.f120 = some (42, lc120, [.tmp 4]) := by kernel_rfl
theorem fn120 : FnOk Try.prog 120 42 lc120 [.tmp 4] := ⟨Try.call120, [], _, Try.func120, low120⟩
/-- moonpool/cable.openBox -/
def lc127 : LCode :=
  (.seq (.region [⟨some 2, .box (.tmp 0), none⟩, ⟨some 4, .alloc [(.int .i64 0), (.int .i64 0), (.slice none 0 0), (.slice none 0 0)], none⟩, ⟨some 5, .mv (.const (.int .i64 0)),
    none⟩]) (.seq (.region [⟨some 9, .load true 3 (.tmp 2), none⟩, ⟨some 10, .mv (.tmp 1), none⟩, ⟨some 11, .call (.func 47) [(.tmp 9), (.tmp 10)], none⟩, ⟨some 8, .mv (.tmp 11),
    none⟩, ⟨some 12, .ext (.tmp 8) 0, none⟩, ⟨some 13, .ext (.tmp 8) 1, none⟩, ⟨some 6, .mv (.tmp 12), none⟩, ⟨some 7, .mv (.tmp 13), none⟩]) (.seq (.region [⟨some 14, .load true 3
    (.tmp 2), none⟩, ⟨some 15, .mv (.tmp 1), none⟩, ⟨some 16, .build [(.int .i64 0), (.int .i64 0), (.slice none 0 0), (.slice none 0 0)] [(0, 3, (.tmp 14)), (3, 1, (.tmp 15))],
    none⟩, ⟨some 17, .mv (.tmp 7), none⟩, ⟨none, .store 4 (.tmp 4) (.tmp 16), none⟩, ⟨some 5, .mv (.tmp 17), none⟩]) .ret)))
theorem low127 : lowF Try.prog [] Try.f127 = some (18, lc127, [.cell 4 true 4, .tmp 5]) := by kernel_rfl
theorem fn127 : FnOk Try.prog 127 18 lc127 [.cell 4 true 4, .tmp 5] := ⟨Try.call127, [], _, Try.func127, low127⟩
/-- slices.ContainsFunc[[][2]int,[2]int] -/
def lc136 : LCode :=
  (.seq (.region [⟨some 4, .mv (.const (.bool false)), none⟩]) (.seq (.region [⟨some 5, .mv (.tmp 0), none⟩, ⟨some 6, .mv (.tmp 1), none⟩, ⟨some 7, .call (.func 153) [(.tmp 5),
    (.tmp 6)], none⟩, ⟨some 8, .bin .geq (.tmp 7) (.const (.int .i64 0)), none⟩, ⟨some 4, .mv (.tmp 8), none⟩]) .ret))
theorem low136 : lowF Try.prog [] Try.f136 = some (9, lc136, [.tmp 4]) := by kernel_rfl
theorem fn136 : FnOk Try.prog 136 9 lc136 [.tmp 4] := ⟨Try.call136, [], _, Try.func136, low136⟩
/-- moonpool/cable.pathErr$1 -/
def lc137 : LCode :=
  (.seq (.region [⟨some 1, .box (.tmp 0), none⟩, ⟨some 2, .mv (.const (.bool false)), none⟩]) (.seq (.region [⟨some 3, .load true 2 (.tmp 1), none⟩, ⟨some 4, .call (.func 138)
    [(.tmp 3)], none⟩, ⟨some 5, .un .not (.tmp 4), none⟩, ⟨some 2, .mv (.tmp 5), none⟩]) .ret))
theorem low137 : lowF Try.prog [] Try.f137 = some (6, lc137, [.tmp 2]) := by kernel_rfl
theorem fn137 : FnOk Try.prog 137 6 lc137 [.tmp 2] := ⟨Try.call137, [], _, Try.func137, low137⟩
/-- (moonpool/cable.place).isPlace -/
def lc138 : LCode :=
  (.seq (.region [⟨some 1, .box (.tmp 0), none⟩, ⟨some 2, .mv (.const (.bool false)), none⟩]) (.seq (.region [⟨some 3, .idxA 1 2 (.tmp 1) (.const (.int .i64 0)), none⟩, ⟨some 4,
    .load false 1 (.tmp 3), none⟩, ⟨some 5, .call (.func 106) [(.tmp 4), (.const (.int .i64 10000))], none⟩, ⟨some 6, .mv (.tmp 5), none⟩, ⟨some 7, .idxA 1 2 (.tmp 1) (.const (.int
    .i64 1)), some (6, true)⟩, ⟨some 8, .load false 1 (.tmp 7), some (6, true)⟩, ⟨some 9, .call (.func 106) [(.tmp 8), (.const (.int .i64 10000))], some (6, true)⟩, ⟨some 10, .pick
    (.tmp 6) (.tmp 9) (.const (.bool false)), none⟩, ⟨some 2, .mv (.tmp 10), none⟩]) .ret))
theorem low138 : lowF Try.prog [] Try.f138 = some (11, lc138, [.tmp 2]) := by kernel_rfl
theorem fn138 : FnOk Try.prog 138 11 lc138 [.tmp 2] := ⟨Try.call138, [], _, Try.func138, low138⟩
def ra139 : LCode :=
  (.seq (.region [⟨some 7, .alloc [(.int .i64 0), (.int .i64 0)], none⟩, ⟨none, .store 2 (.tmp 7) (.tmp 13), none⟩]) (.region [⟨some 8, .alloc [(.int .i64 0), (.int .i64 0)], none⟩,
    ⟨none, .store 2 (.tmp 8) (.tmp 14), none⟩]))
def rb139 : LCode :=
  (.block 1 (.seq (.regionD [⟨some 15, .load true 2 (.tmp 8), none⟩, ⟨some 16, .load true 2 (.tmp 7), none⟩, ⟨some 17, .call (.func 155) [(.tmp 15), (.tmp 16)], none⟩, ⟨some 18,
    .load true 2 (.tmp 3), none⟩, ⟨some 19, .load true 2 (.tmp 7), none⟩, ⟨some 20, .call (.func 155) [(.tmp 18), (.tmp 19)], none⟩, ⟨some 21, .call (.func 156) [(.tmp 17), (.tmp
    20)], none⟩, ⟨some 9, .mv (.tmp 21), none⟩] [0, 0, 3, 0, 0, 31, 63, 127] [0, 1, 2, 3, 4, 5, 6, 7]) (.seq (.region [⟨some 22, .idxA 1 2 (.tmp 3) (.const (.int .i64 0)), none⟩,
    ⟨some 23, .load false 1 (.tmp 22), none⟩, ⟨some 24, .idxA 1 2 (.tmp 7) (.const (.int .i64 0)), none⟩, ⟨some 25, .load false 1 (.tmp 24), none⟩, ⟨some 26, .idxA 1 2 (.tmp 8)
    (.const (.int .i64 0)), none⟩, ⟨some 27, .load false 1 (.tmp 26), none⟩, ⟨some 28, .mm false [(.tmp 25), (.tmp 27)], none⟩, ⟨some 29, .idxA 1 2 (.tmp 7) (.const (.int .i64 0)),
    none⟩, ⟨some 30, .load false 1 (.tmp 29), none⟩, ⟨some 31, .idxA 1 2 (.tmp 8) (.const (.int .i64 0)), none⟩, ⟨some 32, .load false 1 (.tmp 31), none⟩, ⟨some 33, .mm true [(.tmp
    30), (.tmp 32)], none⟩, ⟨some 34, .call (.func 104) [(.tmp 23), (.tmp 28), (.tmp 33)], none⟩, ⟨some 35, .mv (.tmp 34), none⟩, ⟨some 36, .idxA 1 2 (.tmp 3) (.const (.int .i64
    1)), some (35, true)⟩, ⟨some 37, .load false 1 (.tmp 36), some (35, true)⟩, ⟨some 38, .idxA 1 2 (.tmp 7) (.const (.int .i64 1)), some (35, true)⟩, ⟨some 39, .load false 1 (.tmp
    38), some (35, true)⟩, ⟨some 40, .idxA 1 2 (.tmp 8) (.const (.int .i64 1)), some (35, true)⟩, ⟨some 41, .load false 1 (.tmp 40), some (35, true)⟩, ⟨some 42, .mm false [(.tmp
    39), (.tmp 41)], some (35, true)⟩, ⟨some 43, .idxA 1 2 (.tmp 7) (.const (.int .i64 1)), some (35, true)⟩, ⟨some 44, .load false 1 (.tmp 43), some (35, true)⟩, ⟨some 45, .idxA 1
    2 (.tmp 8) (.const (.int .i64 1)), some (35, true)⟩, ⟨some 46, .load false 1 (.tmp 45), some (35, true)⟩, ⟨some 47, .mm true [(.tmp 44), (.tmp 46)], some (35, true)⟩, ⟨some 48,
    .call (.func 104) [(.tmp 37), (.tmp 42), (.tmp 47)], some (35, true)⟩, ⟨some 49, .pick (.tmp 35) (.tmp 48) (.const (.bool false)), none⟩, ⟨some 10, .mv (.tmp 49), none⟩])
    (.block 2 (.seq (.region [⟨some 51, .mv (.tmp 9), none⟩, ⟨some 52, .bin .eql (.tmp 51) (.const (.int .i64 0)), none⟩, ⟨some 53, .mv (.tmp 52), none⟩, ⟨some 54, .mv (.tmp 10),
    some (53, true)⟩, ⟨some 55, .pick (.tmp 53) (.tmp 54) (.const (.bool false)), none⟩, ⟨some 50, .mv (.tmp 55), none⟩]) (.cond (.tmp 50) (.seq (.region [⟨none, .store 1 (.tmp 4)
    (.const (.int .i64 0)), none⟩, ⟨none, .store 1 (.tmp 5) (.const (.bool false)), none⟩]) .ret) (.seq (.region [⟨some 57, .idxA 1 2 (.tmp 7) (.const (.int .i64 1)), none⟩, ⟨some
    58, .load false 1 (.tmp 57), none⟩, ⟨some 59, .idxA 1 2 (.tmp 3) (.const (.int .i64 1)), none⟩, ⟨some 60, .load false 1 (.tmp 59), none⟩, ⟨some 61, .bin .leq (.tmp 58) (.tmp
    60), none⟩, ⟨some 62, .mv (.tmp 61), none⟩, ⟨some 63, .idxA 1 2 (.tmp 3) (.const (.int .i64 1)), some (62, true)⟩, ⟨some 64, .load false 1 (.tmp 63), some (62, true)⟩, ⟨some 65,
    .idxA 1 2 (.tmp 8) (.const (.int .i64 1)), some (62, true)⟩, ⟨some 66, .load false 1 (.tmp 65), some (62, true)⟩, ⟨some 67, .bin .lss (.tmp 64) (.tmp 66), some (62, true)⟩,
    ⟨some 68, .pick (.tmp 62) (.tmp 67) (.const (.bool false)), none⟩, ⟨some 69, .mv (.tmp 68), none⟩, ⟨some 70, .mv (.tmp 9), some (69, true)⟩, ⟨some 71, .bin .gtr (.tmp 70)
    (.const (.int .i64 0)), some (69, true)⟩, ⟨some 72, .pick (.tmp 69) (.tmp 71) (.const (.bool false)), none⟩, ⟨some 56, .mv (.tmp 72), none⟩]) (.cond (.tmp 56) (.region [⟨some
    73, .load false 1 (.tmp 6), none⟩, ⟨some 74, .bin .add (.tmp 73) (.const (.int .i64 1)), none⟩, ⟨none, .store 1 (.tmp 6) (.tmp 74), none⟩]) (.seq (.region [⟨some 76, .idxA 1 2
    (.tmp 8) (.const (.int .i64 1)), none⟩, ⟨some 77, .load false 1 (.tmp 76), none⟩, ⟨some 78, .idxA 1 2 (.tmp 3) (.const (.int .i64 1)), none⟩, ⟨some 79, .load false 1 (.tmp 78),
    none⟩, ⟨some 80, .bin .leq (.tmp 77) (.tmp 79), none⟩, ⟨some 81, .mv (.tmp 80), none⟩, ⟨some 82, .idxA 1 2 (.tmp 3) (.const (.int .i64 1)), some (81, true)⟩, ⟨some 83, .load
    false 1 (.tmp 82), some (81, true)⟩, ⟨some 84, .idxA 1 2 (.tmp 7) (.const (.int .i64 1)), some (81, true)⟩, ⟨some 85, .load false 1 (.tmp 84), some (81, true)⟩, ⟨some 86, .bin
    .lss (.tmp 83) (.tmp 85), some (81, true)⟩, ⟨some 87, .pick (.tmp 81) (.tmp 86) (.const (.bool false)), none⟩, ⟨some 88, .mv (.tmp 87), none⟩, ⟨some 89, .mv (.tmp 9), some (88,
    true)⟩, ⟨some 90, .bin .lss (.tmp 89) (.const (.int .i64 0)), some (88, true)⟩, ⟨some 91, .pick (.tmp 88) (.tmp 90) (.const (.bool false)), none⟩, ⟨some 75, .mv (.tmp 91),
    none⟩]) (.cond (.tmp 75) (.region [⟨some 92, .load false 1 (.tmp 6), none⟩, ⟨some 93, .bin .sub (.tmp 92) (.const (.int .i64 1)), none⟩, ⟨none, .store 1 (.tmp 6) (.tmp 93),
    none⟩]) .skip))))))))))
/-- moonpool/cable.winding -/
def lc139 : LCode :=
  (.seq (.region [⟨some 3, .box (.tmp 1), none⟩, ⟨some 4, .alloc [(.int .i64 0)], none⟩, ⟨some 5, .alloc [(.bool false)], none⟩]) (.seq (.region [⟨some 6, .alloc [(.int .i64 0)],
    none⟩, ⟨none, .store 1 (.tmp 6) (.const (.int .i64 0)), none⟩]) (.seq (.seq (.region [⟨some 11, .mv (.tmp 0), none⟩, ⟨some 12, .call (.func 154) [(.tmp 11)], none⟩]) (.block 0
    (.rangeFunc (.tmp 12) [13, 14] ra139 rb139))) (.seq (.region [⟨some 94, .load false 1 (.tmp 6), none⟩, ⟨none, .store 1 (.tmp 4) (.tmp 94), none⟩, ⟨none, .store 1 (.tmp 5)
    (.const (.bool true)), none⟩]) .ret))))
theorem low139 : lowF Try.prog [] Try.f139 = some (95, lc139, [.cell 4 false 1, .cell 5 false 1]) := by kernel_rfl
theorem fn139 : FnOk Try.prog 139 95 lc139 [.cell 4 false 1, .cell 5 false 1] := ⟨Try.call139, [], _, Try.func139, low139⟩
/-- moonpool/cable.open$1 -/
def lc140 : LCode :=
  (.seq (.region [⟨some 4, .mv (.const (.int .i64 0)), none⟩]) (.seq (.region [⟨some 5, .mv (.tmp 1), none⟩, ⟨some 6, .call (.func 111) [(.tmp 5)], none⟩, ⟨some 7, .call (.func 91)
    [(.tmp 6), (.const (.int .i64 2))], none⟩, ⟨some 4, .mv (.tmp 7), none⟩]) .ret))
theorem low140 : lowF Try.prog [] Try.f140 = some (8, lc140, [.tmp 4]) := by kernel_rfl
theorem fn140 : FnOk Try.prog 140 8 lc140 [.tmp 4] := ⟨Try.call140, [], _, Try.func140, low140⟩
/-- (moonpool/cable.line).pulls$1 -/
def lc141 : LCode :=
  (.seq (.region [⟨some 6, .fld 0 (.tmp 1), none⟩, ⟨some 7, .fld 0 (.tmp 6), none⟩, ⟨some 8, .fld 0 (.tmp 7), none⟩, ⟨some 9, .load false 1 (.tmp 8), none⟩, ⟨some 10, .fld 0 (.tmp
    1), none⟩, ⟨some 11, .fld 0 (.tmp 10), none⟩, ⟨some 12, .fld 0 (.tmp 11), none⟩, ⟨some 13, .load false 1 (.tmp 12), none⟩, ⟨some 14, .build [(.int .i64 0), (.int .i64 0)] [(0,
    1, (.tmp 9)), (1, 1, (.tmp 13))], none⟩, ⟨some 15, .fld 0 (.tmp 1), none⟩, ⟨some 16, .fld 0 (.tmp 15), none⟩, ⟨some 17, .fld 1 (.tmp 16), none⟩, ⟨some 18, .load false 1 (.tmp
    17), none⟩, ⟨some 19, .build [(.int .i64 0), (.int .i64 0), (.int .i64 0), (.int .i64 0)] [(0, 2, (.tmp 14)), (2, 1, (.tmp 18))], none⟩, ⟨some 3, .alloc [(.int .i64 0), (.int
    .i64 0), (.int .i64 0), (.int .i64 0)], none⟩, ⟨none, .store 4 (.tmp 3) (.tmp 19), none⟩]) (.seq (.region [⟨some 20, .fld 0 (.tmp 1), none⟩, ⟨some 21, .fld 2 (.tmp 20), none⟩,
    ⟨some 22, .load false 1 (.tmp 21), none⟩, ⟨some 23, .len (.tmp 22), none⟩, ⟨some 24, .mv (.const (.int .i64 0)), none⟩]) (.block 0 (.loop (.seq (.region [⟨some 25, .bin .lss
    (.tmp 24) (.tmp 23), none⟩]) (.seq (.cond (.tmp 25) .skip (.exit 0)) (.seq (.block 1 (.seq (.region [⟨some 26, .mv (.tmp 24), none⟩, ⟨some 27, .idx 3 (.tmp 22) (.tmp 24), none⟩,
    ⟨some 28, .load true 3 (.tmp 27), none⟩, ⟨some 5, .alloc [(.int .i64 0), (.int .i64 0), (.int .i64 0)], none⟩, ⟨some 4, .mv (.tmp 26), none⟩, ⟨none, .store 3 (.tmp 5) (.tmp 28),
    none⟩]) (.seq (.regionD [⟨some 29, .fld 0 (.tmp 3), none⟩, ⟨some 30, .fld 0 (.tmp 29), none⟩, ⟨some 31, .load false 1 (.tmp 30), none⟩, ⟨some 32, .fld 2 (.tmp 5), none⟩, ⟨some
    33, .load false 1 (.tmp 32), none⟩, ⟨some 34, .fld 3 (.tmp 1), none⟩, ⟨some 35, .load false 1 (.tmp 34), none⟩, ⟨some 36, .mv (.tmp 4), none⟩, ⟨some 37, .idx 2 (.tmp 35) (.tmp
    36), none⟩, ⟨some 38, .fld 0 (.tmp 37), none⟩, ⟨some 39, .load false 1 (.tmp 38), none⟩, ⟨some 40, .bin .mul (.tmp 33) (.tmp 39), none⟩, ⟨some 41, .bin .add (.tmp 31) (.tmp 40),
    none⟩, ⟨some 42, .fld 0 (.tmp 3), none⟩, ⟨some 43, .fld 0 (.tmp 42), none⟩, ⟨none, .store 1 (.tmp 43) (.tmp 41), none⟩] [0, 1, 3, 0, 8, 0, 32, 0, 224, 480, 992, 2040, 4095,
    8191, 16383, 32767] [0, 1, 2, 3, 4, 5, 6, 7, 8, 9, 10, 11, 12, 13, 14, 15]) (.seq (.regionD [⟨some 44, .fld 0 (.tmp 3), none⟩, ⟨some 45, .fld 1 (.tmp 44), none⟩, ⟨some 46, .load
    false 1 (.tmp 45), none⟩, ⟨some 47, .fld 2 (.tmp 5), none⟩, ⟨some 48, .load false 1 (.tmp 47), none⟩, ⟨some 49, .fld 3 (.tmp 1), none⟩, ⟨some 50, .load false 1 (.tmp 49), none⟩,
    ⟨some 51, .mv (.tmp 4), none⟩, ⟨some 52, .idx 2 (.tmp 50) (.tmp 51), none⟩, ⟨some 53, .fld 1 (.tmp 52), none⟩, ⟨some 54, .load false 1 (.tmp 53), none⟩, ⟨some 55, .bin .mul
    (.tmp 48) (.tmp 54), none⟩, ⟨some 56, .bin .add (.tmp 46) (.tmp 55), none⟩, ⟨some 57, .fld 0 (.tmp 3), none⟩, ⟨some 58, .fld 1 (.tmp 57), none⟩, ⟨none, .store 1 (.tmp 58) (.tmp
    56), none⟩] [0, 1, 3, 0, 8, 0, 32, 0, 224, 480, 992, 2040, 4095, 8191, 16383, 32767] [0, 1, 2, 3, 4, 5, 6, 7, 8, 9, 10, 11, 12, 13, 14, 15]) (.seq (.regionD [⟨some 59, .fld 2
    (.tmp 3), none⟩, ⟨some 60, .load false 1 (.tmp 59), none⟩, ⟨some 61, .fld 1 (.tmp 5), none⟩, ⟨some 62, .load false 1 (.tmp 61), none⟩, ⟨some 63, .bin .add (.tmp 60) (.tmp 62),
    none⟩, ⟨some 64, .fld 0 (.tmp 5), none⟩, ⟨some 65, .load false 1 (.tmp 64), none⟩, ⟨some 66, .fld 2 (.tmp 3), none⟩, ⟨none, .store 1 (.tmp 66) (.tmp 63), none⟩, ⟨some 67, .fld 3
    (.tmp 3), none⟩, ⟨none, .store 1 (.tmp 67) (.tmp 65), none⟩] [0, 1, 0, 4, 15, 0, 32, 31, 159, 511, 1023] [0, 1, 2, 3, 4, 5, 6, 7, 8, 9, 10]) (.seq (.region [⟨some 68, .mv (.tmp
    0), none⟩, ⟨some 69, .mv (.tmp 4), none⟩, ⟨some 70, .load true 4 (.tmp 3), none⟩, ⟨some 71, .call (.tmp 68) [(.tmp 69), (.tmp 70)], none⟩, ⟨some 72, .un .not (.tmp 71), none⟩])
    (.cond (.tmp 72) .ret .skip))))))) (.region [⟨some 73, .bin .add (.tmp 24) (.const (.int .i64 1)), none⟩, ⟨some 24, .mv (.tmp 73), none⟩]))))))))
theorem low141 : lowF Try.prog [] Try.f141 = some (74, lc141, []) := by kernel_rfl
theorem fn141 : FnOk Try.prog 141 74 lc141 [] := ⟨Try.call141, [], _, Try.func141, low141⟩
def ra142 : LCode :=
  (.region [⟨some 4, .alloc [(.int .i64 0), (.int .i64 0), (.int .i64 0), (.int .i64 0)], none⟩, ⟨none, .store 4 (.tmp 4) (.tmp 8), none⟩])
def rb142 : LCode :=
  (.block 1 (.seq (.region [⟨some 9, .fld 2 (.tmp 4), none⟩, ⟨some 10, .load false 1 (.tmp 9), none⟩, ⟨some 11, .bin .leq (.tmp 10) (.const (.int .i64 0)), none⟩]) (.cond (.tmp 11)
    (.seq (.region [⟨none, .store 1 (.tmp 2) (.const (.int .i64 21)), none⟩]) .ret) .skip)))
/-- (moonpool/cable.line).slackErr -/
def lc142 : LCode :=
  (.seq (.region [⟨some 1, .box (.tmp 0), none⟩, ⟨some 2, .alloc [(.int .i64 0)], none⟩]) (.seq (.seq (.region [⟨some 5, .load true 4 (.tmp 1), none⟩, ⟨some 6, .call (.func 113)
    [(.tmp 5)], none⟩]) (.block 0 (.rangeFunc (.tmp 6) [7, 8] ra142 rb142))) (.seq (.region [⟨none, .store 1 (.tmp 2) (.const (.int .i64 0)), none⟩]) .ret)))
theorem low142 : lowF Try.prog [] Try.f142 = some (12, lc142, [.cell 2 false 1]) := by kernel_rfl
theorem fn142 : FnOk Try.prog 142 12 lc142 [.cell 2 false 1] := ⟨Try.call142, [], _, Try.func142, low142⟩
/-- moonpool/cable.divisor -/
def lc143 : LCode :=
  (.seq (.region [⟨some 4, .mv (.const (.int .i64 0)), none⟩]) (.seq (.block 0 (.loop (.seq (.seq (.region [⟨some 5, .mv (.tmp 1), none⟩, ⟨some 6, .bin .neq (.tmp 5) (.const (.int
    .i64 0)), none⟩]) (.cond (.tmp 6) .skip (.exit 0))) (.block 1 (.regionD [⟨some 7, .mv (.tmp 1), none⟩, ⟨some 8, .mv (.tmp 0), none⟩, ⟨some 9, .mv (.tmp 1), none⟩, ⟨some 10, .bin
    .rem (.tmp 8) (.tmp 9), none⟩, ⟨some 0, .mv (.tmp 7), none⟩, ⟨some 1, .mv (.tmp 10), none⟩] [0, 0, 0, 6, 3, 31] [0, 1, 2, 3, 4, 5]))))) (.seq (.region [⟨some 11, .mv (.tmp 0),
    none⟩, ⟨some 12, .mv (.tmp 0), none⟩, ⟨some 13, .un .neg (.tmp 12), none⟩, ⟨some 14, .mm true [(.tmp 11), (.tmp 13)], none⟩, ⟨some 4, .mv (.tmp 14), none⟩]) .ret)))
theorem low143 : lowF Try.prog [] Try.f143 = some (15, lc143, [.tmp 4]) := by kernel_rfl
theorem fn143 : FnOk Try.prog 143 15 lc143 [.tmp 4] := ⟨Try.call143, [], _, Try.func143, low143⟩
/-- moonpool/cable.floor -/
def lc144 : LCode :=
  (.seq (.region [⟨some 4, .mv (.const (.int .i64 0)), none⟩]) (.seq (.region [⟨some 6, .mv (.tmp 0), none⟩, ⟨some 7, .mv (.tmp 1), none⟩, ⟨some 8, .bin .quo (.tmp 6) (.tmp 7),
    none⟩, ⟨some 5, .mv (.tmp 8), none⟩]) (.seq (.seq (.region [⟨some 9, .mv (.tmp 0), none⟩, ⟨some 10, .mv (.tmp 1), none⟩, ⟨some 11, .bin .rem (.tmp 9) (.tmp 10), none⟩, ⟨some 12,
    .bin .lss (.tmp 11) (.const (.int .i64 0)), none⟩]) (.cond (.tmp 12) (.region [⟨some 13, .mv (.tmp 5), none⟩, ⟨some 14, .bin .sub (.tmp 13) (.const (.int .i64 1)), none⟩, ⟨some
    5, .mv (.tmp 14), none⟩]) .skip)) (.seq (.region [⟨some 15, .mv (.tmp 5), none⟩, ⟨some 4, .mv (.tmp 15), none⟩]) .ret))))
theorem low144 : lowF Try.prog [] Try.f144 = some (16, lc144, [.tmp 4]) := by kernel_rfl
theorem fn144 : FnOk Try.prog 144 16 lc144 [.tmp 4] := ⟨Try.call144, [], _, Try.func144, low144⟩
/-- moonpool/cable.ceil -/
def lc145 : LCode :=
  (.seq (.region [⟨some 4, .mv (.const (.int .i64 0)), none⟩]) (.seq (.region [⟨some 5, .mv (.tmp 0), none⟩, ⟨some 6, .un .neg (.tmp 5), none⟩, ⟨some 7, .mv (.tmp 1), none⟩, ⟨some
    8, .call (.func 144) [(.tmp 6), (.tmp 7)], none⟩, ⟨some 9, .un .neg (.tmp 8), none⟩, ⟨some 4, .mv (.tmp 9), none⟩]) .ret))
theorem low145 : lowF Try.prog [] Try.f145 = some (10, lc145, [.tmp 4]) := by kernel_rfl
theorem fn145 : FnOk Try.prog 145 10 lc145 [.tmp 4] := ⟨Try.call145, [], _, Try.func145, low145⟩
/-- moonpool/cable.root -/
def lc146 : LCode :=
  (.seq (.region [⟨some 2, .mv (.const (.int .i64 0)), none⟩]) (.seq (.region [⟨some 3, .mv (.const (.int .i64 0)), none⟩]) (.seq (.seq (.region [⟨some 4, .mv (.const (.int .i64
    2147483648)), none⟩]) (.block 0 (.loop (.seq (.seq (.region [⟨some 5, .mv (.tmp 4), none⟩, ⟨some 6, .bin .gtr (.tmp 5) (.const (.int .i64 0)), none⟩]) (.cond (.tmp 6) .skip
    (.exit 0))) (.seq (.block 1 (.seq (.region [⟨some 9, .mv (.tmp 3), none⟩, ⟨some 10, .mv (.tmp 4), none⟩, ⟨some 11, .bin .or (.tmp 9) (.tmp 10), none⟩, ⟨some 12, .mv (.tmp 3),
    none⟩, ⟨some 13, .mv (.tmp 4), none⟩, ⟨some 14, .bin .or (.tmp 12) (.tmp 13), none⟩, ⟨some 15, .bin .mul (.tmp 11) (.tmp 14), none⟩, ⟨some 16, .mv (.tmp 0), none⟩, ⟨some 17,
    .bin .leq (.tmp 15) (.tmp 16), none⟩]) (.cond (.tmp 17) (.region [⟨some 18, .mv (.tmp 3), none⟩, ⟨some 19, .mv (.tmp 4), none⟩, ⟨some 20, .bin .or (.tmp 18) (.tmp 19), none⟩,
    ⟨some 3, .mv (.tmp 20), none⟩]) .skip))) (.region [⟨some 7, .mv (.tmp 4), none⟩, ⟨some 8, .bin .shr (.tmp 7) (.const (.int .u64 1)), none⟩, ⟨some 4, .mv (.tmp 8), none⟩]))))))
    (.seq (.region [⟨some 21, .mv (.tmp 3), none⟩, ⟨some 2, .mv (.tmp 21), none⟩]) .ret))))
theorem low146 : lowF Try.prog [] Try.f146 = some (22, lc146, [.tmp 2]) := by kernel_rfl
theorem fn146 : FnOk Try.prog 146 22 lc146 [.tmp 2] := ⟨Try.call146, [], _, Try.func146, low146⟩
/-- math/bits.Mul64 -/
def lc147 : LCode :=
  (.seq (.region [⟨some 4, .mv (.const (.int .u64 0)), none⟩, ⟨some 5, .mv (.const (.int .u64 0)), none⟩]) (.seq (.region [⟨some 14, .mv (.tmp 0), none⟩, ⟨some 15, .bin .and (.tmp
    14) (.const (.int .u64 4294967295)), none⟩, ⟨some 6, .mv (.tmp 15), none⟩]) (.seq (.region [⟨some 16, .mv (.tmp 0), none⟩, ⟨some 17, .bin .shr (.tmp 16) (.const (.int .u64 32)),
    none⟩, ⟨some 7, .mv (.tmp 17), none⟩]) (.seq (.region [⟨some 18, .mv (.tmp 1), none⟩, ⟨some 19, .bin .and (.tmp 18) (.const (.int .u64 4294967295)), none⟩, ⟨some 8, .mv (.tmp
    19), none⟩]) (.seq (.region [⟨some 20, .mv (.tmp 1), none⟩, ⟨some 21, .bin .shr (.tmp 20) (.const (.int .u64 32)), none⟩, ⟨some 9, .mv (.tmp 21), none⟩]) (.seq (.region [⟨some
    22, .mv (.tmp 6), none⟩, ⟨some 23, .mv (.tmp 8), none⟩, ⟨some 24, .bin .mul (.tmp 22) (.tmp 23), none⟩, ⟨some 10, .mv (.tmp 24), none⟩]) (.seq (.region [⟨some 25, .mv (.tmp 7),
    none⟩, ⟨some 26, .mv (.tmp 8), none⟩, ⟨some 27, .bin .mul (.tmp 25) (.tmp 26), none⟩, ⟨some 28, .mv (.tmp 10), none⟩, ⟨some 29, .bin .shr (.tmp 28) (.const (.int .u64 32)),
    none⟩, ⟨some 30, .bin .add (.tmp 27) (.tmp 29), none⟩, ⟨some 11, .mv (.tmp 30), none⟩]) (.seq (.region [⟨some 31, .mv (.tmp 11), none⟩, ⟨some 32, .bin .and (.tmp 31) (.const
    (.int .u64 4294967295)), none⟩, ⟨some 12, .mv (.tmp 32), none⟩]) (.seq (.region [⟨some 33, .mv (.tmp 11), none⟩, ⟨some 34, .bin .shr (.tmp 33) (.const (.int .u64 32)), none⟩,
    ⟨some 13, .mv (.tmp 34), none⟩]) (.seq (.region [⟨some 35, .mv (.tmp 12), none⟩, ⟨some 36, .mv (.tmp 6), none⟩, ⟨some 37, .mv (.tmp 9), none⟩, ⟨some 38, .bin .mul (.tmp 36)
    (.tmp 37), none⟩, ⟨some 39, .bin .add (.tmp 35) (.tmp 38), none⟩, ⟨some 12, .mv (.tmp 39), none⟩]) (.seq (.region [⟨some 40, .mv (.tmp 7), none⟩, ⟨some 41, .mv (.tmp 9), none⟩,
    ⟨some 42, .bin .mul (.tmp 40) (.tmp 41), none⟩, ⟨some 43, .mv (.tmp 13), none⟩, ⟨some 44, .bin .add (.tmp 42) (.tmp 43), none⟩, ⟨some 45, .mv (.tmp 12), none⟩, ⟨some 46, .bin
    .shr (.tmp 45) (.const (.int .u64 32)), none⟩, ⟨some 47, .bin .add (.tmp 44) (.tmp 46), none⟩, ⟨some 4, .mv (.tmp 47), none⟩]) (.seq (.region [⟨some 48, .mv (.tmp 0), none⟩,
    ⟨some 49, .mv (.tmp 1), none⟩, ⟨some 50, .bin .mul (.tmp 48) (.tmp 49), none⟩, ⟨some 5, .mv (.tmp 50), none⟩]) .ret))))))))))))
theorem low147 : lowF Try.prog [] Try.f147 = some (51, lc147, [.tmp 4, .tmp 5]) := by kernel_rfl
theorem fn147 : FnOk Try.prog 147 51 lc147 [.tmp 4, .tmp 5] := ⟨Try.call147, [], _, Try.func147, low147⟩
/-- slices.IndexFunc[[][2]int,[2]int] -/
def lc153 : LCode :=
  (.seq (.region [⟨some 4, .mv (.const (.int .i64 0)), none⟩]) (.seq (.seq (.region [⟨some 6, .mv (.tmp 0), none⟩, ⟨some 7, .len (.tmp 6), none⟩, ⟨some 8, .mv (.const (.int .i64
    0)), none⟩]) (.block 0 (.loop (.seq (.region [⟨some 9, .bin .lss (.tmp 8) (.tmp 7), none⟩]) (.seq (.cond (.tmp 9) .skip (.exit 0)) (.seq (.block 1 (.seq (.region [⟨some 10, .mv
    (.tmp 8), none⟩, ⟨some 5, .mv (.tmp 10), none⟩]) (.seq (.region [⟨some 11, .mv (.tmp 1), none⟩, ⟨some 12, .mv (.tmp 0), none⟩, ⟨some 13, .mv (.tmp 5), none⟩, ⟨some 14, .idx 2
    (.tmp 12) (.tmp 13), none⟩, ⟨some 15, .load true 2 (.tmp 14), none⟩, ⟨some 16, .call (.tmp 11) [(.tmp 15)], none⟩]) (.cond (.tmp 16) (.seq (.region [⟨some 17, .mv (.tmp 5),
    none⟩, ⟨some 4, .mv (.tmp 17), none⟩]) .ret) .skip)))) (.region [⟨some 18, .bin .add (.tmp 8) (.const (.int .i64 1)), none⟩, ⟨some 8, .mv (.tmp 18), none⟩]))))))) (.seq (.region
    [⟨some 4, .mv (.const (.int .i64 (-1))), none⟩]) .ret)))
theorem low153 : lowF Try.prog [] Try.f153 = some (19, lc153, [.tmp 4]) := by kernel_rfl
theorem fn153 : FnOk Try.prog 153 19 lc153 [.tmp 4] := ⟨Try.call153, [], _, Try.func153, low153⟩
/-- moonpool/cable.ways -/
def lc154 : LCode :=
  (.seq (.region [⟨some 1, .box (.tmp 0), none⟩, ⟨some 2, .mv (.const .nilFunc), none⟩]) (.seq (.region [⟨some 3, .mkfn 157 [(.tmp 1)], none⟩, ⟨some 2, .mv (.tmp 3), none⟩]) .ret))
theorem low154 : lowF Try.prog [] Try.f154 = some (4, lc154, [.tmp 2]) := by kernel_rfl
theorem fn154 : FnOk Try.prog 154 4 lc154 [.tmp 2] := ⟨Try.call154, [], _, Try.func154, low154⟩
/-- (moonpool/cable.place).minus -/
def lc155 : LCode :=
  (.seq (.region [⟨some 2, .box (.tmp 0), none⟩, ⟨some 3, .box (.tmp 1), none⟩, ⟨some 4, .alloc [(.int .i64 0), (.int .i64 0)], none⟩]) (.seq (.region [⟨some 5, .idxA 1 2 (.tmp 2)
    (.const (.int .i64 0)), none⟩, ⟨some 6, .load false 1 (.tmp 5), none⟩, ⟨some 7, .idxA 1 2 (.tmp 3) (.const (.int .i64 0)), none⟩, ⟨some 8, .load false 1 (.tmp 7), none⟩, ⟨some
    9, .bin .sub (.tmp 6) (.tmp 8), none⟩, ⟨some 10, .idxA 1 2 (.tmp 2) (.const (.int .i64 1)), none⟩, ⟨some 11, .load false 1 (.tmp 10), none⟩, ⟨some 12, .idxA 1 2 (.tmp 3) (.const
    (.int .i64 1)), none⟩, ⟨some 13, .load false 1 (.tmp 12), none⟩, ⟨some 14, .bin .sub (.tmp 11) (.tmp 13), none⟩, ⟨some 15, .build [(.int .i64 0), (.int .i64 0)] [(0, 1, (.tmp
    9)), (1, 1, (.tmp 14))], none⟩, ⟨none, .store 2 (.tmp 4) (.tmp 15), none⟩]) .ret))
theorem low155 : lowF Try.prog [] Try.f155 = some (16, lc155, [.cell 4 true 2]) := by kernel_rfl
theorem fn155 : FnOk Try.prog 155 16 lc155 [.cell 4 true 2] := ⟨Try.call155, [], _, Try.func155, low155⟩
/-- (moonpool/cable.place).cross -/
def lc156 : LCode :=
  (.seq (.region [⟨some 2, .box (.tmp 0), none⟩, ⟨some 3, .box (.tmp 1), none⟩, ⟨some 4, .mv (.const (.int .i64 0)), none⟩]) (.seq (.region [⟨some 5, .idxA 1 2 (.tmp 2) (.const
    (.int .i64 0)), none⟩, ⟨some 6, .load false 1 (.tmp 5), none⟩, ⟨some 7, .idxA 1 2 (.tmp 3) (.const (.int .i64 1)), none⟩, ⟨some 8, .load false 1 (.tmp 7), none⟩, ⟨some 9, .bin
    .mul (.tmp 6) (.tmp 8), none⟩, ⟨some 10, .idxA 1 2 (.tmp 2) (.const (.int .i64 1)), none⟩, ⟨some 11, .load false 1 (.tmp 10), none⟩, ⟨some 12, .idxA 1 2 (.tmp 3) (.const (.int
    .i64 0)), none⟩, ⟨some 13, .load false 1 (.tmp 12), none⟩, ⟨some 14, .bin .mul (.tmp 11) (.tmp 13), none⟩, ⟨some 15, .bin .sub (.tmp 9) (.tmp 14), none⟩, ⟨some 4, .mv (.tmp 15),
    none⟩]) .ret))
theorem low156 : lowF Try.prog [] Try.f156 = some (16, lc156, [.tmp 4]) := by kernel_rfl
theorem fn156 : FnOk Try.prog 156 16 lc156 [.tmp 4] := ⟨Try.call156, [], _, Try.func156, low156⟩
/-- moonpool/cable.ways$1 -/
def lc157 : LCode :=
  (.seq (.region [⟨some 5, .load false 1 (.tmp 1), none⟩, ⟨some 6, .len (.tmp 5), none⟩, ⟨some 7, .mv (.const (.int .i64 0)), none⟩]) (.block 0 (.loop (.seq (.region [⟨some 8, .bin
    .lss (.tmp 7) (.tmp 6), none⟩]) (.seq (.cond (.tmp 8) .skip (.exit 0)) (.seq (.block 1 (.seq (.region [⟨some 9, .mv (.tmp 7), none⟩, ⟨some 10, .idx 2 (.tmp 5) (.tmp 7), none⟩,
    ⟨some 11, .load true 2 (.tmp 10), none⟩, ⟨some 4, .alloc [(.int .i64 0), (.int .i64 0)], none⟩, ⟨some 3, .mv (.tmp 9), none⟩, ⟨none, .store 2 (.tmp 4) (.tmp 11), none⟩]) (.seq
    (.regionD [⟨some 12, .mv (.tmp 0), none⟩, ⟨some 13, .load true 2 (.tmp 4), none⟩, ⟨some 14, .load false 1 (.tmp 1), none⟩, ⟨some 15, .mv (.tmp 3), none⟩, ⟨some 16, .bin .add
    (.tmp 15) (.const (.int .i64 1)), none⟩, ⟨some 17, .load false 1 (.tmp 1), none⟩, ⟨some 18, .len (.tmp 17), none⟩, ⟨some 19, .bin .rem (.tmp 16) (.tmp 18), none⟩, ⟨some 20, .idx
    2 (.tmp 14) (.tmp 19), none⟩, ⟨some 21, .load true 2 (.tmp 20), none⟩, ⟨some 22, .call (.tmp 12) [(.tmp 13), (.tmp 21)], none⟩, ⟨some 23, .un .not (.tmp 22), none⟩] [0, 0, 0, 0,
    8, 0, 32, 120, 252, 508, 1023, 2047] [0, 1, 2, 3, 4, 5, 6, 7, 8, 9, 10, 11]) (.cond (.tmp 23) .ret .skip)))) (.region [⟨some 24, .bin .add (.tmp 7) (.const (.int .i64 1)),
    none⟩, ⟨some 7, .mv (.tmp 24), none⟩])))))))
theorem low157 : lowF Try.prog [] Try.f157 = some (25, lc157, []) := by kernel_rfl
theorem fn157 : FnOk Try.prog 157 25 lc157 [] := ⟨Try.call157, [], _, Try.func157, low157⟩
end Go.Pw

set_option linter.unusedSimpArgs false
namespace Go.Pw
set_option maxRecDepth 2000
open Go Go.Proofs A1 A2 A3 A4
instance : Mix Try.prog := ⟨⟨by kernel_rfl⟩⟩
theorem mbd {a b A B : Int} (ha : -A ≤ a ∧ a ≤ A) (hb : -B ≤ b ∧ b ≤ B) : -(A * B) ≤ a * b ∧ a * b ≤ A * B := by
  have hA : 0 ≤ A := by omega
  have hB : 0 ≤ B := by omega
  have h : (a * b).natAbs ≤ (A * B).natAbs := by
    rw [Int.natAbs_mul, Int.natAbs_mul]
    exact Nat.mul_le_mul (by omega) (by omega)
  have : 0 ≤ A * B := Int.mul_nonneg hA hB
  omega
theorem sq_nonneg (a : Int) : 0 ≤ a * a := by
  rcases Int.le_total 0 a with h | h
  · exact Int.mul_nonneg h h
  · have := Int.mul_nonneg (show 0 ≤ -a by omega) (show 0 ≤ -a by omega)
    rwa [Int.neg_mul_neg] at this
theorem C16 {n lo hi : Int} : PFD Try.prog 16 [vi .i64 n, vi .i64 lo, vi .i64 hi] (vbl (decide (lo ≤ n ∧ n ≤ hi))) := by
  refine pi1 fn16 ?_
  (repeat' first | (refine Owe.same ?_; first | refine Owe.o ?_ | refine Owe.mk ?_ ?_) | (refine Fork.same ?_; (first | refine fkD ?_ ?_ | refine fkN ?_ ?_ | refine fkM ?_ ?_) <;> intro h) | refine MvQ.stay ?_)
  · (refine rqK rfl ?_; (repeat' first | exact rfl | (refine qS ?_; constructor))); simp [*]
  · (refine rqK rfl ?_; (repeat' first | exact rfl | (refine qS ?_; constructor))); simp only [decide_eq_false_iff_not]; omega
theorem C104 {n lo hi : Int} : PFD Try.prog 104 [vi .i64 n, vi .i64 lo, vi .i64 hi] (vbl (decide (lo ≤ n ∧ n ≤ hi))) := by
  refine pi1 fn104 ?_
  (repeat' first | (refine Owe.same ?_; first | refine Owe.o ?_ | refine Owe.mk ?_ ?_) | (refine Fork.same ?_; (first | refine fkD ?_ ?_ | refine fkN ?_ ?_ | refine fkM ?_ ?_) <;> intro h) | refine MvQ.stay ?_)
  · (refine rqK rfl ?_; (repeat' first | exact rfl | (refine qS ?_; constructor))); simp [*]
  · (refine rqK rfl ?_; (repeat' first | exact rfl | (refine qS ?_; constructor))); simp only [decide_eq_false_iff_not]; omega
theorem C106 {n m : Int} : (0 ≤ m ∧ m < 4611686018427387904) → PFD Try.prog 106 [vi .i64 n, vi .i64 m] (vbl (decide (-m ≤ n ∧ n ≤ m))) := fun h => by
  refine pi1 fn106 ?_
  (repeat' first | (refine Owe.same ?_; first | refine Owe.o ?_ | refine Owe.mk ?_ ?_) | (refine Fork.same ?_; (first | refine fkD ?_ ?_ | refine fkN ?_ ?_ | refine fkM ?_ ?_) <;> intro h) | ((first | refine OpsL.same ?_ | refine OpsDL.same ?_); first | refine pK C104 rfl rfl ?_) | refine MvQ.stay ?_)
  (refine rqK rfl ?_; (repeat' first | exact rfl | (refine qS ?_; constructor)))
theorem C111 {n : Int} : PFD Try.prog 111 [vi .i64 n] (vbl (decide (-50 ≤ n ∧ n ≤ 50))) := by
  refine pi1 fn111 ?_
  (repeat' first | (refine Owe.same ?_; first | refine Owe.o ?_ | refine Owe.mk ?_ ?_) | (refine Fork.same ?_; (first | refine fkD ?_ ?_ | refine fkN ?_ ?_ | refine fkM ?_ ?_) <;> intro h) | ((first | refine OpsL.same ?_ | refine OpsDL.same ?_); first | refine pK C106 rfl rfl ?_) | refine MvQ.stay ?_)
  (refine rqK rfl ?_; (repeat' first | exact rfl | (refine qS ?_; constructor)))
theorem C100 {n : Int} : PFD Try.prog 100 [vi .i64 n] (vbl (decide (-50 ≤ n ∧ n ≤ 50))) := by
  refine pi1 fn100 ?_
  (repeat' first | (refine Owe.same ?_; first | refine Owe.o ?_ | refine Owe.mk ?_ ?_) | (refine Fork.same ?_; (first | refine fkD ?_ ?_ | refine fkN ?_ ?_ | refine fkM ?_ ?_) <;> intro h) | ((first | refine OpsL.same ?_ | refine OpsDL.same ?_); first | refine pK C16 rfl rfl ?_) | refine MvQ.stay ?_)
  (refine rqK rfl ?_; (repeat' first | exact rfl | (refine qS ?_; constructor)))
abbrev isPl (p : Int × Int) : Prop := (-10000 ≤ p.1 ∧ p.1 ≤ 10000) ∧ -10000 ≤ p.2 ∧ p.2 ≤ 10000
theorem C138 {p : Int × Int} : PFD Try.prog 138 [.agg [int p.1, int p.2]] (vbl (decide (isPl p))) := by
  refine pi1 fn138 ?_
  (repeat' first | (refine Owe.same ?_; first | refine Owe.o ?_ | refine Owe.mk ?_ ?_) | (refine Fork.same ?_; (first | refine fkD ?_ ?_ | refine fkN ?_ ?_ | refine fkM ?_ ?_) <;> intro h) | ((first | refine OpsL.same ?_ | refine OpsDL.same ?_); first | refine pK C106 rfl rfl ?_) | refine MvQ.stay ?_)
  · (refine rqK rfl ?_; (repeat' first | exact rfl | (refine qS ?_; constructor))); simp [*]
  · (refine rqK rfl ?_; (repeat' first | exact rfl | (refine qS ?_; constructor))); simp only [decide_eq_false_iff_not]; omega
theorem C137 {p : Int × Int} : PFD Try.prog 137 [.agg [int p.1, int p.2]] (vbl (!decide (isPl p))) := by
  refine pi1 fn137 ?_
  (repeat' first | (refine Owe.same ?_; first | refine Owe.o ?_ | refine Owe.mk ?_ ?_) | (refine Fork.same ?_; (first | refine fkD ?_ ?_ | refine fkN ?_ ?_ | refine fkM ?_ ?_) <;> intro h) | ((first | refine OpsL.same ?_ | refine OpsDL.same ?_); first | refine pK C138 rfl rfl ?_) | refine MvQ.stay ?_)
  (refine rqK rfl ?_; (repeat' first | exact rfl | (refine qS ?_; constructor)))
/-- An error unless. -/
def unb : Bool → Int → Int
  | true, _ => 0
  | false, e => e
abbrev unl (p : Prop) [Decidable p] (e : Int) : Int := unb (decide p) e
theorem unl_eq {p : Prop} [Decidable p] {e : Int} : unl p e = if p then 0 else e := by
  by_cases h : p <;> simp [unl, unb, h]
theorem unb_eq {b : Bool} {e : Int} : unb b e = if b = true then 0 else e := by cases b <;> rfl
theorem C91 {b : Bool} {e : Int} : PFD Try.prog 91 [vbl b, vi .i64 e] (vi .i64 (unb b e)) := by
  refine pi1 fn91 ?_
  (repeat' first | (refine Owe.same ?_; first | refine Owe.o ?_ | refine Owe.mk ?_ ?_) | (refine Fork.same ?_; (first | refine fkD ?_ ?_ | refine fkN ?_ ?_ | refine fkM ?_ ?_) <;> intro h) | refine MvQ.stay ?_)
  · (refine rqK rfl ?_; (repeat' first | exact rfl | (refine qS ?_; constructor))); simp [unb, *]
  · (refine rqK rfl ?_; (repeat' first | exact rfl | (refine qS ?_; constructor))); simp [unb, *]
/-- The first one that is not 0. -/
def fstE : List Int → Int
  | [] => 0
  | e :: l => if e = 0 then fstE l else e
theorem fstE_drop (l : List Int) (k : Nat) (h : k < l.length) : fstE (l.drop k) = if l.getD k 0 = 0 then fstE (l.drop (k + 1)) else l.getD k 0 := by
  rw [List.drop_eq_getElem_cons h, fstE, List.getD_eq_getElem?_getD, List.getElem?_eq_getElem h]
  rfl
theorem C90 {l : List Int} : l.length < 4611686018427387904 → PFD Try.prog 90 [.c (ints l)] (vi .i64 (fstE l)) := fun hl => by
  refine pi1 fn90 ?_
  (repeat' first | (refine Owe.same ?_; first | refine Owe.o ?_ | refine Owe.mk ?_ ?_) | (refine Fork.same ?_; (first | refine fkD ?_ ?_ | refine fkN ?_ ?_ | refine fkM ?_ ?_) <;> intro h) | refine MvQ.stay ?_)
  refine Sat.lp0 (fun k : Nat => [(7, vi .i64 k), (6, vi .i64 l.length), (5, .c (ints l))]) (fun k => k ≤ l.length ∧ fstE l = fstE (l.drop k)) (fun k => l.length - k) 0 ⟨Nat.zero_le _, rfl⟩ (by ((first | refine qen ?_ | refine qvs ?_ | refine qeq ?_ | refine qst ?_ | refine qv ?_ | refine qc ?_ | refine qe ?_ | refine qcs ?_ | skip); (repeat' first | exact rfl | (refine qS ?_; constructor)))) ?_
  intro k hk
  (repeat' first | (refine Owe.same ?_; first | refine Owe.o ?_ | refine Owe.mk ?_ ?_) | (refine Fork.same ?_; (first | refine fkD ?_ ?_ | refine fkN ?_ ?_ | refine fkM ?_ ?_) <;> intro h) | refine MvQ.stay ?_)
  · simp only [Int.toNat_natCast] at h
    (refine rqK rfl ?_; (repeat' first | exact rfl | (refine qS ?_; constructor)))
    rw [hk.2, fstE_drop l k (by omega), if_neg h, Int.toNat_natCast]
  · simp only [Int.toNat_natCast] at h
    refine again0 (k + 1) ⟨by omega, ?_⟩ (by omega) (by ((first | refine qen ?_ | refine qvs ?_ | refine qeq ?_ | refine qst ?_ | refine qv ?_ | refine qc ?_ | refine qe ?_ | refine qcs ?_ | skip); (repeat' first | exact rfl | (refine qS ?_; constructor))))
    rw [hk.2, fstE_drop l k (by omega), if_pos h]
  · (refine rqK rfl ?_; (repeat' first | exact rfl | (refine qS ?_; constructor)))
    rw [hk.2, List.drop_of_length_le (by omega)]; rfl
end Go.Pw

set_option linter.unusedSimpArgs false
namespace Go.Pw
set_option maxRecDepth 2000
open Go Go.Proofs A1 A2 A3 A4
theorem tdiv_bd {a b M : Int} (h : -M ≤ a ∧ a ≤ M) : -M ≤ a.tdiv b ∧ a.tdiv b ≤ M := by
  have h1 : (a.tdiv b).natAbs ≤ a.natAbs := by rw [Int.natAbs_tdiv]; exact Nat.div_le_self _ _
  omega
theorem floor_eq {n b : Int} (hb : 0 < b) : (if n.tmod b < 0 then n.tdiv b - 1 else n.tdiv b) = n / b := by
  have h1 := Int.tmod_add_mul_tdiv n b
  have h2 := Int.emod_add_mul_ediv n b
  have h3 := Int.emod_nonneg n (show b ≠ 0 by omega)
  have h4 := Int.emod_lt_of_pos n hb
  have h5 : n.tmod b < b := Int.tmod_lt_of_pos n hb
  have h6 : -b < n.tmod b := by
    have := Int.natAbs_tmod n b
    have h7 : (n.natAbs % b.natAbs) < b.natAbs := Nat.mod_lt _ (by omega)
    omega
  split
  · refine Int.eq_of_mul_eq_mul_left (show b ≠ 0 by omega) ?_
    have h7 : b * (n / b) - b * (n.tdiv b - 1) = n.tmod b + b - n % b := by rw [Int.mul_sub]; omega
    have h8 : b * (n / b) - b * (n.tdiv b - 1) = b * (n / b - (n.tdiv b - 1)) := by rw [← Int.mul_sub]
    rw [h8] at h7
    have h9 : n / b - (n.tdiv b - 1) = 0 := by
      rcases Int.lt_trichotomy (n / b - (n.tdiv b - 1)) 0 with h | h | h
      · have := Int.mul_le_mul_of_nonneg_left (show n / b - (n.tdiv b - 1) ≤ -1 by omega) (show 0 ≤ b by omega); omega
      · exact h
      · have := Int.mul_le_mul_of_nonneg_left (show 1 ≤ n / b - (n.tdiv b - 1) by omega) (show 0 ≤ b by omega); omega
    rw [show n.tdiv b - 1 = n / b by omega]
  · have h7 : b * (n / b) - b * n.tdiv b = n.tmod b - n % b := by omega
    rw [← Int.mul_sub] at h7
    rcases Int.lt_trichotomy (n / b - n.tdiv b) 0 with h | h | h
    · have := Int.mul_le_mul_of_nonneg_left (show n / b - n.tdiv b ≤ -1 by omega) (show 0 ≤ b by omega); omega
    · omega
    · have := Int.mul_le_mul_of_nonneg_left (show 1 ≤ n / b - n.tdiv b by omega) (show 0 ≤ b by omega); omega
theorem mod_eq {n b : Int} (hb : 0 < b) : (if n.tmod b < 0 then n.tmod b + b else n.tmod b) = n % b := by
  have h1 := Int.tmod_add_mul_tdiv n b
  have h2 := Int.emod_add_mul_ediv n b
  have h3 := floor_eq (n := n) hb
  split
  · rename_i h; rw [if_pos h] at h3; rw [← h3, Int.mul_sub] at h2; omega
  · rename_i h; rw [if_neg h] at h3; rw [← h3] at h2; omega
abbrev Md (n : Int) : Prop := -4611686018427387904 ≤ n ∧ n ≤ 4611686018427387904
theorem tmod_bd {n b : Int} (hb : 0 < b) : -b < n.tmod b ∧ n.tmod b < b := by
  have h5 : n.tmod b < b := Int.tmod_lt_of_pos n hb
  have := Int.natAbs_tmod n b
  have h7 : (n.natAbs % b.natAbs) < b.natAbs := Nat.mod_lt _ (by omega)
  omega
theorem C144 {n b : Int} : (Md n ∧ 0 < b) → PFD Try.prog 144 [vi .i64 n, vi .i64 b] (vi .i64 (n / b)) := fun ⟨hn, hb⟩ => by
  have h5 := tdiv_bd (b := b) hn
  refine pi1 fn144 ?_
  (repeat' first | (refine Owe.same ?_; first | refine Owe.o ?_ | refine Owe.mk ?_ ?_) | (refine Fork.same ?_; (first | refine fkD ?_ ?_ | refine fkN ?_ ?_ | refine fkM ?_ ?_) <;> intro h) | refine MvQ.stay ?_)
  · (refine rqK rfl ?_; (repeat' first | exact rfl | (refine qS ?_; constructor))); rw [← floor_eq hb, if_pos h]
  · (refine rqK rfl ?_; (repeat' first | exact rfl | (refine qS ?_; constructor))); rw [← floor_eq hb, if_neg h]
theorem ediv_bd {a b M : Int} (hb : 0 < b) (h : -M ≤ a ∧ a ≤ M) : -M ≤ a / b ∧ a / b ≤ M := by
  constructor
  · have := Int.le_ediv_of_mul_le (c := b) (a := -M) (b := a) hb (by
      have h2 : M * 1 ≤ M * b := Int.mul_le_mul_of_nonneg_left (by omega) (by omega)
      rw [Int.neg_mul]; omega)
    exact this
  · have h2 : M * 1 ≤ M * b := Int.mul_le_mul_of_nonneg_left (by omega) (by omega)
    exact Int.ediv_le_of_le_mul hb (by omega)
abbrev ceilI (n b : Int) : Int := -(-n / b)
theorem C145 {n b : Int} : (Md n ∧ 0 < b) → PFD Try.prog 145 [vi .i64 n, vi .i64 b] (vi .i64 (ceilI n b)) := fun ⟨hn, hb⟩ => by
  have h5 := ediv_bd (a := -n) (M := 4611686018427387904) hb (by omega)
  refine pi1 fn145 ?_
  (repeat' first | (refine Owe.same ?_; first | refine Owe.o ?_ | refine Owe.mk ?_ ?_) | (refine Fork.same ?_; (first | refine fkD ?_ ?_ | refine fkN ?_ ?_ | refine fkM ?_ ?_) <;> intro h) | ((first | refine OpsL.same ?_ | refine OpsDL.same ?_); first | refine pK C144 rfl rfl ?_) | refine MvQ.stay ?_)
  (refine rqK rfl ?_; (repeat' first | exact rfl | (refine qS ?_; constructor)))
theorem C31 {l : List Int} : l.length ≤ 1000000 → PFD Try.prog 31 [.c (ints l)] (.c (ints l)) := fun h => by
  refine pi1 fn31 ?_
  (repeat' first | (refine Owe.same ?_; first | refine Owe.o ?_ | refine Owe.mk ?_ ?_) | (refine Fork.same ?_; (first | refine fkD ?_ ?_ | refine fkN ?_ ?_ | refine fkM ?_ ?_) <;> intro h) | refine MvQ.stay ?_)
  (refine rqK rfl ?_; (repeat' first | exact rfl | (refine qS ?_; constructor)))
theorem C33 {l : List (Int × Int)} : l.length ≤ 1000000 → PFD Try.prog 33 [.c (prs l)] (.c (prs l)) := fun h => by
  refine pi1 fn33 ?_
  (repeat' first | (refine Owe.same ?_; first | refine Owe.o ?_ | refine Owe.mk ?_ ?_) | (refine Fork.same ?_; (first | refine fkD ?_ ?_ | refine fkN ?_ ?_ | refine fkM ?_ ?_) <;> intro h) | refine MvQ.stay ?_)
  (refine rqK rfl ?_; (repeat' first | exact rfl | (refine qS ?_; constructor)))
theorem C30 {x z : Int} {l : List (Int × Int × Int)} : l.length ≤ 1000000 → PFD Try.prog 30 [.agg [int x, int z, trs l]] (.agg [int x, int z, trs l]) := fun h => by
  refine pi1 fn30 ?_
  (repeat' first | (refine Owe.same ?_; first | refine Owe.o ?_ | refine Owe.mk ?_ ?_) | (refine Fork.same ?_; (first | refine fkD ?_ ?_ | refine fkN ?_ ?_ | refine fkM ?_ ?_) <;> intro h) | refine MvQ.stay ?_)
  (refine rqK rfl ?_; (repeat' first | exact rfl | (refine qS ?_; constructor)))
theorem ext_getD {α : Type} (d : α) {l m : List α} (hl : l.length = m.length) (h : ∀ i, i < l.length → l.getD i d = m.getD i d) : l = m := by
  refine List.ext_getElem hl fun i h1 h2 => ?_
  have := h i h1
  simpa [List.getD_eq_getElem?_getD, h1, h2] using this
end Go.Pw

set_option linter.unusedSimpArgs false
namespace Go.Pw
set_option maxRecDepth 2000
open Go Go.Proofs A1 A2 A3 A4
theorem pair_eq {p q : Int × Int} : (decide (p.1 = q.1) && decide (p.2 = q.2)) = decide (p = q) := by
  rw [Bool.eq_iff_iff]; simp [Prod.ext_iff]
theorem C39 {l m : List (Int × Int)} : l.length < 4611686018427387904 → PFD Try.prog 39 [.c (prs l), .c (prs m)] (vbl (decide (l = m))) := fun hl => by
  refine pi1 fn39 ?_
  (repeat' first | (refine Owe.same ?_; first | refine Owe.o ?_ | refine Owe.mk ?_ ?_) | (refine Fork.same ?_; (first | refine fkD ?_ ?_ | refine fkN ?_ ?_ | refine fkM ?_ ?_) <;> intro h) | refine MvQ.stay ?_)
  · (refine rqK rfl ?_; (repeat' first | exact rfl | (refine qS ?_; constructor))); simp only [decide_eq_false_iff_not]; intro he; subst he; omega
  · have hlm : l.length = m.length := by omega
    clear h
    refine Sat.lp0 (fun k : Nat => [(5, vi .i64 k), (0, .c (prs l)), (1, .c (prs m))]) (fun k => k ≤ l.length ∧ ∀ i, i < k → l.getD i (0, 0) = m.getD i (0, 0)) (fun k => l.length - k) 0 ⟨Nat.zero_le _, fun i hi => by omega⟩ (by ((first | refine qen ?_ | refine qvs ?_ | refine qeq ?_ | refine qst ?_ | refine qv ?_ | refine qc ?_ | refine qe ?_ | refine qcs ?_ | skip); (repeat' first | exact rfl | (refine qS ?_; constructor)))) ?_
    intro k hk
    (repeat' first | (refine Owe.same ?_; first | refine Owe.o ?_ | refine Owe.mk ?_ ?_) | (refine Fork.same ?_; (first | refine fkD ?_ ?_ | refine fkN ?_ ?_ | refine fkM ?_ ?_) <;> intro h) | refine MvQ.stay ?_)
    · simp only [Int.toNat_natCast, pair_eq, Bool.not_eq_true', decide_eq_false_iff_not] at h
      (refine rqK rfl ?_; (repeat' first | exact rfl | (refine qS ?_; constructor))); simp only [decide_eq_false_iff_not]; intro he; subst he; exact h rfl
    · simp only [Int.toNat_natCast, pair_eq, Bool.not_eq_false', decide_eq_true_eq] at h
      refine again0 (k + 1) ⟨by omega, fun i hi => ?_⟩ (by omega) (by ((first | refine qen ?_ | refine qvs ?_ | refine qeq ?_ | refine qst ?_ | refine qv ?_ | refine qc ?_ | refine qe ?_ | refine qcs ?_ | skip); (repeat' first | exact rfl | (refine qS ?_; constructor))))
      rcases Nat.lt_succ_iff_lt_or_eq.1 hi with h3 | rfl
      · exact hk.2 i h3
      · exact h
    · (refine rqK rfl ?_; (repeat' first | exact rfl | (refine qS ?_; constructor))); simp only [decide_eq_true_eq]; exact ext_getD (0, 0) hlm fun i hi => hk.2 i (by omega)
theorem C62 {l m : List (Int × Int)} : l.length < 4611686018427387904 → PFD Try.prog 62 [.c (prs l), .c (prs m)] (vbl (decide (l = m))) := fun hl => by
  refine pi1 fn62 ?_
  (repeat' first | (refine Owe.same ?_; first | refine Owe.o ?_ | refine Owe.mk ?_ ?_) | (refine Fork.same ?_; (first | refine fkD ?_ ?_ | refine fkN ?_ ?_ | refine fkM ?_ ?_) <;> intro h) | refine MvQ.stay ?_)
  · (refine rqK rfl ?_; (repeat' first | exact rfl | (refine qS ?_; constructor))); simp only [decide_eq_false_iff_not]; intro he; subst he; omega
  · have hlm : l.length = m.length := by omega
    clear h
    refine Sat.lp0 (fun k : Nat => [(5, vi .i64 k), (0, .c (prs l)), (1, .c (prs m))]) (fun k => k ≤ l.length ∧ ∀ i, i < k → l.getD i (0, 0) = m.getD i (0, 0)) (fun k => l.length - k) 0 ⟨Nat.zero_le _, fun i hi => by omega⟩ (by ((first | refine qen ?_ | refine qvs ?_ | refine qeq ?_ | refine qst ?_ | refine qv ?_ | refine qc ?_ | refine qe ?_ | refine qcs ?_ | skip); (repeat' first | exact rfl | (refine qS ?_; constructor)))) ?_
    intro k hk
    (repeat' first | (refine Owe.same ?_; first | refine Owe.o ?_ | refine Owe.mk ?_ ?_) | (refine Fork.same ?_; (first | refine fkD ?_ ?_ | refine fkN ?_ ?_ | refine fkM ?_ ?_) <;> intro h) | refine MvQ.stay ?_)
    · simp only [Int.toNat_natCast, pair_eq, Bool.not_eq_true', decide_eq_false_iff_not] at h
      (refine rqK rfl ?_; (repeat' first | exact rfl | (refine qS ?_; constructor))); simp only [decide_eq_false_iff_not]; intro he; subst he; exact h rfl
    · simp only [Int.toNat_natCast, pair_eq, Bool.not_eq_false', decide_eq_true_eq] at h
      refine again0 (k + 1) ⟨by omega, fun i hi => ?_⟩ (by omega) (by ((first | refine qen ?_ | refine qvs ?_ | refine qeq ?_ | refine qst ?_ | refine qv ?_ | refine qc ?_ | refine qe ?_ | refine qcs ?_ | skip); (repeat' first | exact rfl | (refine qS ?_; constructor))))
      rcases Nat.lt_succ_iff_lt_or_eq.1 hi with h3 | rfl
      · exact hk.2 i h3
      · exact h
    · (refine rqK rfl ?_; (repeat' first | exact rfl | (refine qS ?_; constructor))); simp only [decide_eq_true_eq]; exact ext_getD (0, 0) hlm fun i hi => hk.2 i (by omega)
abbrev gcdI (a b : Int) : Int := Int.gcd a b
theorem gcd_step (a b : Int) : Int.gcd b (a.tmod b) = Int.gcd a b := by
  simp only [Int.gcd, Int.natAbs_tmod]
  rw [Nat.gcd_comm, ← Nat.gcd_rec, Nat.gcd_comm]
theorem gcd_zero (a : Int) : gcdI a 0 = max a (-a) := by
  simp only [gcdI, Int.gcd, Int.natAbs_zero, Nat.gcd_zero_right]; omega
theorem tmod_abs {a b : Int} (hb : b ≠ 0) : (a.tmod b).natAbs < b.natAbs := by
  rw [Int.natAbs_tmod]; exact Nat.mod_lt _ (by omega)
theorem C143 {a b : Int} : (Md a ∧ Md b) → PFD Try.prog 143 [vi .i64 a, vi .i64 b] (vi .i64 (gcdI a b)) := fun hab => by
  refine pi1 fn143 ?_
  (repeat' first | (refine Owe.same ?_; first | refine Owe.o ?_ | refine Owe.mk ?_ ?_) | (refine Fork.same ?_; (first | refine fkD ?_ ?_ | refine fkN ?_ ?_ | refine fkM ?_ ?_) <;> intro h) | refine MvQ.stay ?_)
  refine Sat.lp0 (fun p : Int × Int => [(0, vi .i64 p.1), (1, vi .i64 p.2)]) (fun p => (Md p.1 ∧ Md p.2) ∧ Int.gcd p.1 p.2 = Int.gcd a b) (fun p => p.2.natAbs) (a, b) ⟨hab, rfl⟩ (by ((first | refine qen ?_ | refine qvs ?_ | refine qeq ?_ | refine qst ?_ | refine qv ?_ | refine qc ?_ | refine qe ?_ | refine qcs ?_ | skip); (repeat' first | exact rfl | (refine qS ?_; constructor)))) ?_
  rintro ⟨x, y⟩ ⟨hm, hg⟩
  (repeat' first | (refine Owe.same ?_; first | refine Owe.o ?_ | refine Owe.mk ?_ ?_) | (refine Fork.same ?_; (first | refine fkD ?_ ?_ | refine fkN ?_ ?_ | refine fkM ?_ ?_) <;> intro h) | refine MvQ.stay ?_)
  · have h1 := tmod_abs (a := x) h
    refine again0 (y, x.tmod y) ⟨⟨hm.2, by have := hm.2; simp only [Md] at *; omega⟩, by rw [gcd_step]; exact hg⟩ h1 (by ((first | refine qen ?_ | refine qvs ?_ | refine qeq ?_ | refine qst ?_ | refine qv ?_ | refine qc ?_ | refine qe ?_ | refine qcs ?_ | skip); (repeat' first | exact rfl | (refine qS ?_; constructor))))
  · (refine rqK rfl ?_; (repeat' first | exact rfl | (refine qS ?_; constructor)))
    have h : y = 0 := h
    subst h
    exact (gcd_zero x).symm.trans (by simp only [gcdI]; rw [← hg])
/-- A fraction in lowest terms, of a number above 0. -/
abbrev frac (n d : Int) : Int × Int := (n.tdiv (gcdI n d), d.tdiv (gcdI n d))
theorem gcd_pos {n d : Int} (hd : 0 < d) : 0 < gcdI n d := by
  have : 0 < Int.gcd n d := Int.gcd_pos_of_ne_zero_right _ (by omega)
  simp only [gcdI]; omega
theorem C117 {n d : Int} : (Md n ∧ Md d ∧ 0 < d) → PFD Try.prog 117 [vi .i64 n, vi .i64 d] (.agg [int (frac n d).1, int (frac n d).2]) := fun ⟨hn, hd, h0⟩ => by
  have h1 := gcd_pos (n := n) h0
  have h2 := tdiv_bd (b := gcdI n d) hn
  have h3 := tdiv_bd (b := gcdI n d) hd
  refine pi1 fn117 ?_
  (repeat' first | (refine Owe.same ?_; first | refine Owe.o ?_ | refine Owe.mk ?_ ?_) | (refine Fork.same ?_; (first | refine fkD ?_ ?_ | refine fkN ?_ ?_ | refine fkM ?_ ?_) <;> intro h) | ((first | refine OpsL.same ?_ | refine OpsDL.same ?_); first | refine pK C143 rfl rfl ?_) | refine MvQ.stay ?_)
  (refine rqK rfl ?_; (repeat' first | exact rfl | (refine qS ?_; constructor)))
end Go.Pw

set_option linter.unusedSimpArgs false
namespace Go.Pw
set_option maxRecDepth 2000
open Go Go.Proofs A1 A2 A3 A4
/-- The root, bit by bit: k bits are left. -/
def rt : Nat → Int → Int → Int
  | 0, r, _ => r
  | k + 1, r, n => if (r + 2 ^ k) * (r + 2 ^ k) ≤ n then rt k (r + 2 ^ k) n else rt k r n
theorem rt_spec (n : Int) : ∀ (k : Nat) (r : Int), 0 ≤ r → r * r ≤ n → n < (r + 2 ^ k) * (r + 2 ^ k) → 0 ≤ rt k r n ∧ rt k r n * rt k r n ≤ n ∧ n < (rt k r n + 1) * (rt k r n + 1)
  | 0, r, h0, h1, h2 => ⟨h0, h1, by simpa [rt] using h2⟩
  | k + 1, r, h0, h1, h2 => by
    have hp : (0 : Int) < 2 ^ k := Int.pow_pos (by omega)
    have e : (2 : Int) ^ (k + 1) = 2 ^ k + 2 ^ k := by rw [Int.pow_succ]; omega
    rw [rt]
    split
    · rename_i h
      refine rt_spec n k _ (by omega) h ?_
      rw [Int.add_assoc, ← e]; exact h2
    · rename_i h
      exact rt_spec n k r h0 h1 (by omega)
theorem root_uniq {n r s : Int} (hr : 0 ≤ r) (h1 : r * r ≤ n) (h2 : n < (r + 1) * (r + 1)) (hs : 0 ≤ s) (h3 : s * s ≤ n) (h4 : n < (s + 1) * (s + 1)) : r = s := by
  rcases Int.lt_trichotomy r s with h | h | h
  · have := Int.mul_le_mul (show r + 1 ≤ s by omega) (show r + 1 ≤ s by omega) (by omega) hs; omega
  · exact h
  · have := Int.mul_le_mul (show s + 1 ≤ r by omega) (show s + 1 ≤ r by omega) (by omega) hr; omega
/-- The root of a number from 0 to 2^60, rounded down. -/
def isq (n : Int) : Int := rt 31 0 n
theorem isq_spec {n : Int} (h : 0 ≤ n ∧ n ≤ 1152921504606846976) : 0 ≤ isq n ∧ isq n * isq n ≤ n ∧ n < (isq n + 1) * (isq n + 1) :=
  rt_spec n 31 0 (by omega) (by omega) (by omega)
theorem rt32 {n : Int} (h : 0 ≤ n ∧ n ≤ 1152921504606846976) : rt 32 0 n = isq n := by
  obtain ⟨a1, a2, a3⟩ := isq_spec h
  obtain ⟨b1, b2, b3⟩ := rt_spec n 32 0 (by omega) (by omega) (by omega)
  exact root_uniq b1 b2 b3 a1 a2 a3
def bitI : Nat → Int
  | 0 => 0
  | k + 1 => 2 ^ k
theorem bitI_half' (k : Nat) : (bitI (k + 1)).fdiv 2 = bitI k := by
  cases k with
  | zero => rfl
  | succ k => simp only [bitI]; rw [Int.pow_succ]; exact Int.mul_fdiv_cancel _ (by omega)
theorem two_le (k m : Nat) (h : k ≤ m) : (2 : Int) ^ k ≤ 2 ^ m := by
  have := Nat.pow_le_pow_right (show 0 < 2 by omega) h
  exact_mod_cast this
theorem isq_le {n : Int} (h : 0 ≤ n ∧ n ≤ 1152921504606846976) : isq n ≤ 1073741824 := by
  obtain ⟨a1, a2, a3⟩ := isq_spec h
  rcases Int.lt_or_le 1073741824 (isq n) with h1 | h1
  · have := Int.mul_le_mul (show 1073741825 ≤ isq n by omega) (show 1073741825 ≤ isq n by omega) (by omega) a1; omega
  · exact h1
theorem or_bit {r : Int} {k : Nat} (hk : k ≤ 31) (hr : 0 ≤ r ∧ r < 4294967296) (hd : ∃ q : Int, r = 2 ^ (k + 1) * q) :
    IntKind.i64.wrap ((BitVec.ofInt IntKind.i64.bits r ||| BitVec.ofInt IntKind.i64.bits (2 ^ k)).toNat : Nat) = r + 2 ^ k := by
  obtain ⟨q, hq⟩ := hd
  obtain ⟨r', rfl⟩ := Int.eq_ofNat_of_zero_le hr.1
  have hp : (0 : Int) < 2 ^ (k + 1) := Int.pow_pos (by omega)
  have hq0 : 0 ≤ q := by
    rcases Int.lt_or_le q 0 with h | h
    · have := Int.mul_le_mul_of_nonneg_left (show q ≤ -1 by omega) (show (0 : Int) ≤ 2 ^ (k + 1) by omega); omega
    · exact h
  obtain ⟨q', rfl⟩ := Int.eq_ofNat_of_zero_le hq0
  have hq' : r' = 2 ^ (k + 1) * q' := by exact_mod_cast hq
  have hk2 : 2 ^ k ≤ 2147483648 := Nat.pow_le_pow_right (show 0 < 2 by omega) hk
  have hb : ((2 ^ IntKind.i64.bits : Nat) : Int) = 18446744073709551616 := by decide
  have e1 : (BitVec.ofInt IntKind.i64.bits (r' : Int)).toNat = r' := by
    rw [BitVec.toNat_ofInt, hb]; omega
  have e2 : (BitVec.ofInt IntKind.i64.bits (2 ^ k)).toNat = 2 ^ k := by
    rw [show ((2 : Int) ^ k) = ((2 ^ k : Nat) : Int) by norm_cast, BitVec.toNat_ofInt, hb]
    generalize 2 ^ k = m at hk2 ⊢
    omega
  rw [BitVec.toNat_or, e1, e2, hq', ← Nat.two_pow_add_eq_or_of_lt (Nat.pow_lt_pow_right (by omega) (by omega)), ← hq']
  have : ((r' + 2 ^ k : Nat) : Int) = (r' : Int) + 2 ^ k := by norm_cast
  rw [this]
  refine wrap64_id ⟨?_, ?_⟩
  · have : (0 : Int) < 2 ^ k := Int.pow_pos (by omega)
    omega
  · have h : ((2 ^ k : Nat) : Int) ≤ 2147483648 := by omega
    rw [Int.natCast_pow] at h
    have h2 : (2 : Int) ^ k ≤ 2147483648 := h
    omega
theorem C146 {n : Int} : (0 ≤ n ∧ n ≤ 1152921504606846976) → PFD Try.prog 146 [vi .i64 n] (vi .i64 (isq n)) := fun hn => by
  refine pi1 fn146 ?_
  (repeat' first | (refine Owe.same ?_; first | refine Owe.o ?_ | refine Owe.mk ?_ ?_) | (refine Fork.same ?_; (first | refine fkD ?_ ?_ | refine fkN ?_ ?_ | refine fkM ?_ ?_) <;> intro h) | refine MvQ.stay ?_)
  refine Sat.lp0 (fun p : Nat × Int => [(0, vi .i64 n), (3, vi .i64 p.2), (4, vi .i64 (bitI p.1))]) (fun p => p.1 ≤ 32 ∧ 0 ≤ p.2 ∧ p.2 * p.2 ≤ n ∧ (p.2 + 2 ^ p.1 ≤ 4294967296 ∧ ∃ q : Int, p.2 = 2 ^ p.1 * q) ∧ isq n = rt p.1 p.2 n) (fun p => p.1) (32, 0) ⟨Nat.le_refl _, Int.le_refl _, by omega, ⟨by decide, 0, rfl⟩, (rt32 hn).symm⟩ (by ((first | refine qen ?_ | refine qvs ?_ | refine qeq ?_ | refine qst ?_ | refine qv ?_ | refine qc ?_ | refine qe ?_ | refine qcs ?_ | skip); (repeat' first | exact rfl | (refine qS ?_; constructor)))) ?_
  rintro ⟨k, r⟩ ⟨hk, hr, hrn, ⟨hb, hd⟩, he⟩
  simp only at hk hr hrn hb hd he
  cases k with
  | zero =>
    refine Fork.dec (fun h => absurd h (by simp [bitI])) (fun h => ?_)
    (repeat' first | (refine Owe.same ?_; first | refine Owe.o ?_ | refine Owe.mk ?_ ?_) | (refine Fork.same ?_; (first | refine fkD ?_ ?_ | refine fkN ?_ ?_ | refine fkM ?_ ?_) <;> intro h) | refine MvQ.stay ?_)
    (refine rqK rfl ?_; (repeat' first | exact rfl | (refine qS ?_; constructor))); rw [he]; rfl
  | succ k =>
    have hp : (0 : Int) < 2 ^ k := Int.pow_pos (by omega)
    have e : (2 : Int) ^ (k + 1) = 2 ^ k + 2 ^ k := by rw [Int.pow_succ]; omega
    have e1 : bitI (k + 1) = 2 ^ k := rfl
    have hr1 : r ≤ 1073741824 := by
      rcases Int.lt_or_le 1073741824 r with h1 | h1
      · have := Int.mul_le_mul (show 1073741825 ≤ r by omega) (show 1073741825 ≤ r by omega) (by omega) hr; omega
      · exact h1
    have hk2 := two_le k 31 (by omega)
    have hor := or_bit (r := r) (k := k) (by omega) ⟨hr, by omega⟩ hd
    have hr2 : r + 2 ^ k ≤ 3037000499 := by
      rcases Nat.lt_or_ge k 31 with h | h
      · have := two_le k 30 (by omega); omega
      · have hk31 : k = 31 := by omega
        subst hk31
        obtain ⟨q, hq⟩ := hd
        omega
    have hm := mbd (A := 3037000499) (B := 3037000499) (a := r + 2 ^ k) (b := r + 2 ^ k) (by omega) (by omega)
    have hh : (2 ^ k : Int).fdiv (2 ^ min (Int.toNat 1) IntKind.i64.bits) = bitI k := bitI_half' k
    simp only [e1] at *
    refine Fork.dec (fun h => ?_) (fun h => absurd hp h)
    refine Owe.mk ?_ ?_
    · simp only [hor, R64]; omega
    (repeat' first | (refine Owe.same ?_; first | refine Owe.o ?_ | refine Owe.mk ?_ ?_) | (refine Fork.same ?_; (first | refine fkD ?_ ?_ | refine fkN ?_ ?_ | refine fkM ?_ ?_) <;> intro h) | refine MvQ.stay ?_)
    · rw [hor] at h
      refine again0 (k, r + 2 ^ k) ⟨by simp only; omega, by simp only; omega, h, ⟨by simp only; omega, ?_⟩, ?_⟩ (by simp) (by ((first | refine qen ?_ | refine qvs ?_ | refine qeq ?_ | refine qst ?_ | refine qv ?_ | refine qc ?_ | refine qe ?_ | refine qcs ?_ | skip); (repeat' first | exact rfl | (refine qS ?_; constructor))) <;> first | exact hor | exact hh)
      · obtain ⟨q, hq⟩ := hd
        exact ⟨2 * q + 1, by simp only; rw [Int.mul_add, ← Int.mul_assoc, ← Int.pow_succ, ← hq, Int.mul_one]⟩
      · rw [he, rt, if_pos h]
    · rw [hor] at h
      refine again0 (k, r) ⟨by simp only; omega, by simp only; omega, hrn, ⟨by simp only; omega, ?_⟩, ?_⟩ (by simp) (by ((first | refine qen ?_ | refine qvs ?_ | refine qeq ?_ | refine qst ?_ | refine qv ?_ | refine qc ?_ | refine qe ?_ | refine qcs ?_ | skip); (repeat' first | exact rfl | (refine qS ?_; constructor))); exact hh)
      · obtain ⟨q, hq⟩ := hd
        exact ⟨2 * q, by simp only; rw [← Int.mul_assoc, ← Int.pow_succ]; exact hq⟩
      · rw [he, rt, if_neg h]
end Go.Pw

set_option linter.unusedSimpArgs false
namespace Go.Pw
set_option maxRecDepth 2000
open Go Go.Proofs A1 A2 A3 A4
theorem u64_wrap (n : Int) : IntKind.u64.wrap n = n % 18446744073709551616 := rfl
theorem and_mask {n : Int} (h : 0 ≤ n ∧ n < 18446744073709551616) : IntKind.u64.wrap ((BitVec.ofInt IntKind.u64.bits n &&& BitVec.ofInt IntKind.u64.bits 4294967295).toNat : Nat) = n % 4294967296 := by
  obtain ⟨m, rfl⟩ := Int.eq_ofNat_of_zero_le h.1
  have hb : ((2 ^ IntKind.u64.bits : Nat) : Int) = 18446744073709551616 := by decide
  have e1 : (BitVec.ofInt IntKind.u64.bits (m : Int)).toNat = m := by rw [BitVec.toNat_ofInt, hb]; omega
  have e2 : (BitVec.ofInt IntKind.u64.bits 4294967295).toNat = 2 ^ 32 - 1 := by decide
  rw [BitVec.toNat_and, e1, e2, Nat.and_two_pow_sub_one_eq_mod, u64_wrap]
  omega
theorem and_mask2 (a : Int) : ((BitVec.ofInt IntKind.u64.bits (a % 18446744073709551616) &&& BitVec.ofInt IntKind.u64.bits 4294967295).toNat : Int) % 18446744073709551616 = a % 18446744073709551616 % 4294967296 := by
  rw [← u64_wrap, and_mask ⟨by omega, by omega⟩]
theorem shr32 {n : Int} : n.fdiv (2 ^ min (Int.toNat 32) IntKind.u64.bits) = n / 4294967296 := by
  show n.fdiv 4294967296 = _
  rw [Int.fdiv_eq_ediv_of_nonneg _ (by omega)]
abbrev U64 (n : Int) : Prop := 0 ≤ n ∧ n < 18446744073709551616
theorem split32 {x y : Int} (hx : U64 x) (hy : U64 y) :
    x * y = (x / 4294967296 * (y / 4294967296)) * 18446744073709551616 + (x / 4294967296 * (y % 4294967296) + x % 4294967296 * (y / 4294967296)) * 4294967296 + x % 4294967296 * (y % 4294967296) ∧
    (0 ≤ x / 4294967296 * (y / 4294967296) ∧ x / 4294967296 * (y / 4294967296) ≤ 4294967295 * 4294967295) ∧ (0 ≤ x / 4294967296 * (y % 4294967296) ∧ x / 4294967296 * (y % 4294967296) ≤ 4294967295 * 4294967295) ∧
    (0 ≤ x % 4294967296 * (y / 4294967296) ∧ x % 4294967296 * (y / 4294967296) ≤ 4294967295 * 4294967295) ∧ (0 ≤ x % 4294967296 * (y % 4294967296) ∧ x % 4294967296 * (y % 4294967296) ≤ 4294967295 * 4294967295) := by
  have hx1 : 0 ≤ x / 4294967296 ∧ x / 4294967296 ≤ 4294967295 := by have := hx.1; have := hx.2; omega
  have hy1 : 0 ≤ y / 4294967296 ∧ y / 4294967296 ≤ 4294967295 := by have := hy.1; have := hy.2; omega
  have hx0 : 0 ≤ x % 4294967296 ∧ x % 4294967296 ≤ 4294967295 := by omega
  have hy0 : 0 ≤ y % 4294967296 ∧ y % 4294967296 ≤ 4294967295 := by omega
  have key : ∀ a b : Int, (0 ≤ a ∧ a ≤ 4294967295) → (0 ≤ b ∧ b ≤ 4294967295) → 0 ≤ a * b ∧ a * b ≤ 4294967295 * 4294967295 := fun a b ha hb =>
    ⟨Int.mul_nonneg ha.1 hb.1, Int.mul_le_mul ha.2 hb.2 hb.1 (by omega)⟩
  refine ⟨?_, key _ _ hx1 hy1, key _ _ hx1 hy0, key _ _ hx0 hy1, key _ _ hx0 hy0⟩
  have e1 : x = x / 4294967296 * 4294967296 + x % 4294967296 := by omega
  have e2 : y = y / 4294967296 * 4294967296 + y % 4294967296 := by omega
  generalize x / 4294967296 = a at *
  generalize x % 4294967296 = b at *
  generalize y / 4294967296 = c at *
  generalize y % 4294967296 = d at *
  subst e1; subst e2
  simp only [Int.add_mul, Int.mul_add]
  have h1 : a * 4294967296 * (c * 4294967296) = a * c * 18446744073709551616 := by rw [Int.mul_assoc, Int.mul_comm 4294967296, Int.mul_assoc, ← Int.mul_assoc a]; rfl
  have h2 : a * 4294967296 * d = a * d * 4294967296 := by rw [Int.mul_assoc, Int.mul_comm 4294967296, ← Int.mul_assoc]
  have h3 : b * (c * 4294967296) = b * c * 4294967296 := by rw [← Int.mul_assoc]
  omega
theorem C147 {x y : Int} : (U64 x ∧ U64 y) → PFD Try.prog 147 [vi .u64 x, vi .u64 y] (.tup [vi .u64 (x * y / 18446744073709551616), vi .u64 (x * y % 18446744073709551616)]) := fun ⟨hx, hy⟩ => by
  have h1 := split32 hx hy
  refine pi2 fn147 ?_
  (repeat' first | (refine Owe.same ?_; first | refine Owe.o ?_ | refine Owe.mk ?_ ?_) | (refine Fork.same ?_; (first | refine fkD ?_ ?_ | refine fkN ?_ ?_ | refine fkM ?_ ?_) <;> intro h) | refine MvQ.stay ?_)
  (refine rqK rfl ?_; (repeat' first | exact rfl | (refine qS ?_; constructor)))
  simp only [and_mask hx, and_mask hy, shr32, u64_wrap]
  rw [and_mask2, h1.1]
  obtain ⟨_, h2, h3, h4, h5⟩ := h1
  generalize x / 4294967296 * (y / 4294967296) = a at *
  generalize x / 4294967296 * (y % 4294967296) = b at *
  generalize x % 4294967296 * (y / 4294967296) = c at *
  generalize x % 4294967296 * (y % 4294967296) = d at *
  omega
abbrev lessQ (a b : Int × Int) : Bool := decide (a.1 * b.2 < b.1 * a.2)
theorem C120 {a b : Int × Int} : ((0 ≤ a.1 ∧ a.1 ≤ 9223372036854775807) ∧ (0 ≤ a.2 ∧ a.2 ≤ 9223372036854775807) ∧ (0 ≤ b.1 ∧ b.1 ≤ 9223372036854775807) ∧ 0 ≤ b.2 ∧ b.2 ≤ 9223372036854775807) → PFD Try.prog 120 [.agg [int a.1, int a.2], .agg [int b.1, int b.2]] (vbl (lessQ a b)) := fun hh => by
  have w : ∀ n : Int, (0 ≤ n ∧ n ≤ 9223372036854775807) → IntKind.u64.wrap n = n := fun n h => by rw [u64_wrap]; omega
  have h1 := w a.1 (by omega)
  have h2 := w a.2 (by omega)
  have h3 := w b.1 (by omega)
  have h4 := w b.2 (by omega)
  refine pi1 fn120 ?_
  (repeat' first | (refine Owe.same ?_; first | refine Owe.o ?_ | refine Owe.mk ?_ ?_) | (refine Fork.same ?_; (first | refine fkD ?_ ?_ | refine fkN ?_ ?_ | refine fkM ?_ ?_) <;> intro h) | ((first | refine OpsL.same ?_ | refine OpsDL.same ?_); first | refine pK C147 rfl rfl ?_) | refine MvQ.stay ?_)

  all_goals ((refine rqK rfl ?_; (repeat' first | exact rfl | (refine qS ?_; constructor))); simp only [h1, h2, h3, h4] at *; simp only [lessQ, decide_eq_true_eq, decide_eq_false_iff_not, decide_eq_decide]; omega)
end Go.Pw

set_option linter.unusedSimpArgs false
namespace Go.Pw
set_option maxRecDepth 2000
open Go Go.Proofs A1 A2 A3 A4
abbrev Lk := Int × Int × Int
abbrev Rg := Int × Int
/-- The first bad item, from index k on, and its error. -/
def eachE {α : Type} (f : α → Int) : Nat → List α → Int × Int
  | _, [] => (0, 0)
  | k, x :: l => if f x = 0 then eachE f (k + 1) l else (k, f x)
theorem eachE_drop {α : Type} (f : α → Int) (d : α) (l : List α) (k : Nat) (h : k < l.length) : eachE f k (l.drop k) = if f (l.getD k d) = 0 then eachE f (k + 1) (l.drop (k + 1)) else ((k : Int), f (l.getD k d)) := by
  rw [List.drop_eq_getElem_cons h, eachE, List.getD_eq_getElem?_getD, List.getElem?_eq_getElem h]
  rfl
theorem eachE_ok {α : Type} {f : α → Int} : ∀ {l : List α} {k : Nat}, (eachE f k l).2 = 0 ↔ ∀ x ∈ l, f x = 0
  | [], k => by simp [eachE]
  | x :: l, k => by
    rw [eachE]
    split
    · rename_i h; rw [eachE_ok (l := l)]; simp [h]
    · rename_i h; simp [h]
theorem C102 {g : FuncId} {f : Int → Int} (hg : ∀ i x : Int, PFD Try.prog g [vi .i64 i, vi .i64 x] (vi .i64 (f x))) {l : List Int} : l.length ≤ 1000000 → PFD Try.prog 102 [.c (ints l), .c (.fn g [])] (.tup [vi .i64 (eachE f 0 l).1, vi .i64 (eachE f 0 l).2]) := fun hl => by
  refine pi2 fn102 ?_
  (repeat' first | (refine Owe.same ?_; first | refine Owe.o ?_ | refine Owe.mk ?_ ?_) | (refine Fork.same ?_; (first | refine fkD ?_ ?_ | refine fkN ?_ ?_ | refine fkM ?_ ?_) <;> intro h) | refine MvQ.stay ?_)
  refine Sat.lp0 (fun k : Nat => [(11, vi .i64 k), (10, vi .i64 l.length), (9, .c (ints l)), (1, .c (.fn g []))]) (fun k => k ≤ l.length ∧ eachE f 0 l = eachE f k (l.drop k)) (fun k => l.length - k) 0 ⟨Nat.zero_le _, rfl⟩ (by ((first | refine qen ?_ | refine qvs ?_ | refine qeq ?_ | refine qst ?_ | refine qv ?_ | refine qc ?_ | refine qe ?_ | refine qcs ?_ | skip); (repeat' first | exact rfl | (refine qS ?_; constructor)))) ?_
  intro k hk
  (repeat' first | (refine Owe.same ?_; first | refine Owe.o ?_ | refine Owe.mk ?_ ?_) | (refine Fork.same ?_; (first | refine fkD ?_ ?_ | refine fkN ?_ ?_ | refine fkM ?_ ?_) <;> intro h) | ((first | refine OpsL.same ?_ | refine OpsDL.same ?_); first | refine pK (hg _ _) rfl rfl ?_) | refine MvQ.stay ?_)
  · have e := eachE_drop f 0 l k (by omega)
    have h : ¬ f (l.getD k 0) = 0 := h
    rw [if_neg h, ← hk.2] at e
    (refine rqK rfl ?_; (repeat' first | exact rfl | (refine qS ?_; constructor))) <;> rw [e] <;> rfl
  · have e := eachE_drop f 0 l k (by omega)
    have h : f (l.getD k 0) = 0 := h
    rw [if_pos h, ← hk.2] at e
    exact again0 (k + 1) ⟨by omega, e⟩ (by omega) (by ((first | refine qen ?_ | refine qvs ?_ | refine qeq ?_ | refine qst ?_ | refine qv ?_ | refine qc ?_ | refine qe ?_ | refine qcs ?_ | skip); (repeat' first | exact rfl | (refine qS ?_; constructor))))
  · have e : eachE f 0 l = (0, 0) := by rw [hk.2, List.drop_of_length_le (by omega)]; rfl
    (refine rqK rfl ?_; (repeat' first | exact rfl | (refine qS ?_; constructor))) <;> rw [e]
theorem C107 {g : FuncId} {f : Lk → Int} (hg : ∀ (i : Int) (x : Lk), PFD Try.prog g [vi .i64 i, .agg [int x.1, int x.2.1, int x.2.2]] (vi .i64 (f x))) {l : List Lk} : l.length ≤ 1000000 → PFD Try.prog 107 [.c (trs l), .c (.fn g [])] (.tup [vi .i64 (eachE f 0 l).1, vi .i64 (eachE f 0 l).2]) := fun hl => by
  refine pi2 fn107 ?_
  (repeat' first | (refine Owe.same ?_; first | refine Owe.o ?_ | refine Owe.mk ?_ ?_) | (refine Fork.same ?_; (first | refine fkD ?_ ?_ | refine fkN ?_ ?_ | refine fkM ?_ ?_) <;> intro h) | refine MvQ.stay ?_)
  refine Sat.lp0 (fun k : Nat => [(11, vi .i64 k), (10, vi .i64 l.length), (9, .c (trs l)), (1, .c (.fn g []))]) (fun k => k ≤ l.length ∧ eachE f 0 l = eachE f k (l.drop k)) (fun k => l.length - k) 0 ⟨Nat.zero_le _, rfl⟩ (by ((first | refine qen ?_ | refine qvs ?_ | refine qeq ?_ | refine qst ?_ | refine qv ?_ | refine qc ?_ | refine qe ?_ | refine qcs ?_ | skip); (repeat' first | exact rfl | (refine qS ?_; constructor)))) ?_
  intro k hk
  (repeat' first | (refine Owe.same ?_; first | refine Owe.o ?_ | refine Owe.mk ?_ ?_) | (refine Fork.same ?_; (first | refine fkD ?_ ?_ | refine fkN ?_ ?_ | refine fkM ?_ ?_) <;> intro h) | ((first | refine OpsL.same ?_ | refine OpsDL.same ?_); first | refine pK (hg _ _) rfl rfl ?_) | refine MvQ.stay ?_)
  · have e := eachE_drop f (0, 0, 0) l k (by omega)
    have h : ¬ f (l.getD k (0, 0, 0)) = 0 := h
    rw [if_neg h, ← hk.2] at e
    (refine rqK rfl ?_; (repeat' first | exact rfl | (refine qS ?_; constructor))) <;> rw [e] <;> rfl
  · have e := eachE_drop f (0, 0, 0) l k (by omega)
    have h : f (l.getD k (0, 0, 0)) = 0 := h
    rw [if_pos h, ← hk.2] at e
    exact again0 (k + 1) ⟨by omega, e⟩ (by omega) (by ((first | refine qen ?_ | refine qvs ?_ | refine qeq ?_ | refine qst ?_ | refine qv ?_ | refine qc ?_ | refine qe ?_ | refine qcs ?_ | skip); (repeat' first | exact rfl | (refine qS ?_; constructor))))
  · have e : eachE f 0 l = (0, 0) := by rw [hk.2, List.drop_of_length_le (by omega)]; rfl
    (refine rqK rfl ?_; (repeat' first | exact rfl | (refine qS ?_; constructor))) <;> rw [e]
theorem C109 {g : FuncId} {f : Rg → Int} (hg : ∀ (i : Int) (x : Rg), PFD Try.prog g [vi .i64 i, .agg [int x.1, int x.2]] (vi .i64 (f x))) {l : List Rg} : l.length ≤ 1000000 → PFD Try.prog 109 [.c (prs l), .c (.fn g [])] (.tup [vi .i64 (eachE f 0 l).1, vi .i64 (eachE f 0 l).2]) := fun hl => by
  refine pi2 fn109 ?_
  (repeat' first | (refine Owe.same ?_; first | refine Owe.o ?_ | refine Owe.mk ?_ ?_) | (refine Fork.same ?_; (first | refine fkD ?_ ?_ | refine fkN ?_ ?_ | refine fkM ?_ ?_) <;> intro h) | refine MvQ.stay ?_)
  refine Sat.lp0 (fun k : Nat => [(11, vi .i64 k), (10, vi .i64 l.length), (9, .c (prs l)), (1, .c (.fn g []))]) (fun k => k ≤ l.length ∧ eachE f 0 l = eachE f k (l.drop k)) (fun k => l.length - k) 0 ⟨Nat.zero_le _, rfl⟩ (by ((first | refine qen ?_ | refine qvs ?_ | refine qeq ?_ | refine qst ?_ | refine qv ?_ | refine qc ?_ | refine qe ?_ | refine qcs ?_ | skip); (repeat' first | exact rfl | (refine qS ?_; constructor)))) ?_
  intro k hk
  (repeat' first | (refine Owe.same ?_; first | refine Owe.o ?_ | refine Owe.mk ?_ ?_) | (refine Fork.same ?_; (first | refine fkD ?_ ?_ | refine fkN ?_ ?_ | refine fkM ?_ ?_) <;> intro h) | ((first | refine OpsL.same ?_ | refine OpsDL.same ?_); first | refine pK (hg _ _) rfl rfl ?_) | refine MvQ.stay ?_)
  · have e := eachE_drop f (0, 0) l k (by omega)
    have h : ¬ f (l.getD k (0, 0)) = 0 := h
    rw [if_neg h, ← hk.2] at e
    (refine rqK rfl ?_; (repeat' first | exact rfl | (refine qS ?_; constructor))) <;> rw [e] <;> rfl
  · have e := eachE_drop f (0, 0) l k (by omega)
    have h : f (l.getD k (0, 0)) = 0 := h
    rw [if_pos h, ← hk.2] at e
    exact again0 (k + 1) ⟨by omega, e⟩ (by omega) (by ((first | refine qen ?_ | refine qvs ?_ | refine qeq ?_ | refine qst ?_ | refine qv ?_ | refine qc ?_ | refine qe ?_ | refine qcs ?_ | skip); (repeat' first | exact rfl | (refine qS ?_; constructor))))
  · have e : eachE f 0 l = (0, 0) := by rw [hk.2, List.drop_of_length_le (by omega)]; rfl
    (refine rqK rfl ?_; (repeat' first | exact rfl | (refine qS ?_; constructor))) <;> rw [e]
abbrev lkOk (k : Lk) : Prop := (1 ≤ k.1 ∧ k.1 ≤ 1000) ∧ (-1000 ≤ k.2.1 ∧ k.2.1 ≤ 1000) ∧ 0 ≤ k.2.2 ∧ k.2.2 ≤ 20
abbrev lkErr (k : Lk) : Int := unl (lkOk k) 2
theorem C108 {i : Int} {k : Lk} : PFD Try.prog 108 [vi .i64 i, .agg [int k.1, int k.2.1, int k.2.2]] (vi .i64 (lkErr k)) := by
  refine pi1 fn108 ?_
  (repeat' first | (refine Owe.same ?_; first | refine Owe.o ?_ | refine Owe.mk ?_ ?_) | (refine Fork.same ?_; (first | refine fkD ?_ ?_ | refine fkN ?_ ?_ | refine fkM ?_ ?_) <;> intro h) | ((first | refine OpsL.same ?_ | refine OpsDL.same ?_); first | refine pK C104 rfl rfl ?_ | refine pK C106 rfl rfl ?_ | refine pK C91 rfl rfl ?_) | refine MvQ.stay ?_)
  all_goals ((refine rqK rfl ?_; (repeat' first | exact rfl | (refine qS ?_; constructor))); simp only [lkErr, unl_eq, unb_eq, decide_eq_true_eq, reduceCtorEq, if_false, Bool.false_eq_true]; ((repeat' split) <;> first | rfl | (exfalso; omega) | omega))
abbrev curOk (n : Int) : Prop := -50 ≤ n ∧ n ≤ 50
abbrev curErr (n : Int) : Int := unl (curOk n) 2
theorem C140 {i n : Int} : PFD Try.prog 140 [vi .i64 i, vi .i64 n] (vi .i64 (curErr n)) := by
  refine pi1 fn140 ?_
  (repeat' first | (refine Owe.same ?_; first | refine Owe.o ?_ | refine Owe.mk ?_ ?_) | (refine Fork.same ?_; (first | refine fkD ?_ ?_ | refine fkN ?_ ?_ | refine fkM ?_ ?_) <;> intro h) | ((first | refine OpsL.same ?_ | refine OpsDL.same ?_); first | refine pK C111 rfl rfl ?_ | refine pK C91 rfl rfl ?_) | refine MvQ.stay ?_)
  (refine rqK rfl ?_; (repeat' first | exact rfl | (refine qS ?_; constructor)))
abbrev rgErr (r : Rg) : Int := fstE [unl (curOk r.1 ∧ curOk r.2) 2, unl (r.1 ≤ r.2) 9]
theorem C110 {i : Int} {r : Rg} : PFD Try.prog 110 [vi .i64 i, .agg [int r.1, int r.2]] (vi .i64 (rgErr r)) := by
  refine pi1 fn110 ?_
  (repeat' first | (refine Owe.same ?_; first | refine Owe.o ?_ | refine Owe.mk ?_ ?_) | (refine Fork.same ?_; (first | refine fkD ?_ ?_ | refine fkN ?_ ?_ | refine fkM ?_ ?_) <;> intro h) | ((first | refine OpsL.same ?_ | refine OpsDL.same ?_); first | refine pK C111 rfl rfl ?_ | refine pK C91 rfl rfl ?_ | refine pK C90 rfl rfl ?_) | refine MvQ.stay ?_)
  all_goals ((refine rqK rfl ?_; (repeat' first | exact rfl | (refine qS ?_; constructor))); simp only [rgErr, fstE, unl_eq, unb_eq, decide_eq_true_eq, reduceCtorEq, if_false, Bool.false_eq_true]; ((repeat' split) <;> first | rfl | (exfalso; omega) | omega))
abbrev ldE (x z : Int) (l : List Lk) : Int := fstE [unl ((-10000 ≤ x ∧ x ≤ 10000) ∧ -10000 ≤ z ∧ z ≤ 10000) 2, unl (0 < (l.length : Int)) 10, unl ((l.length : Int) ≤ 10) 8]
def lineE (x z : Int) (l : List Lk) : Int × Int := if ldE x z l = 0 then eachE lkErr 0 l else (0, ldE x z l)
theorem unl_and_t {p q : Prop} [Decidable p] [Decidable q] (h : p) (e : Int) : unb (decide q) e = unl (p ∧ q) e := by simp [unl, h]
theorem unl_and_f {p q : Prop} [Decidable p] [Decidable q] (h : ¬ p) (e : Int) : unb false e = unl (p ∧ q) e := by simp [unl, h]
theorem C46 {x z : Int} {l : List Lk} : l.length ≤ 1000000 → PFD Try.prog 46 [.agg [int x, int z, trs l]] (.tup [vi .i64 (lineE x z l).1, vi .i64 (lineE x z l).2]) := fun hl => by
  have hc := C107 (fun i x => C108) hl
  refine pi2 fn46 ?_
  (repeat' first | (refine Owe.same ?_; first | refine Owe.o ?_ | refine Owe.mk ?_ ?_) | (refine Fork.same ?_; (first | refine fkD ?_ ?_ | refine fkN ?_ ?_ | refine fkM ?_ ?_) <;> intro h) | ((first | refine OpsL.same ?_ | refine OpsDL.same ?_); first | refine pK C106 rfl rfl ?_ | refine pK C91 rfl rfl ?_ | refine pK C90 rfl rfl ?_ | refine pK hc rfl rfl ?_) | refine MvQ.stay ?_)
  · rename_i h0
    rw [unl_and_t h0] at h
    have e : lineE x z l = (0, ldE x z l) := if_neg h
    (refine rqK rfl ?_; (repeat' first | exact rfl | (refine qS ?_; constructor))) <;> rw [e]
    rw [unl_and_t h0]
  · rename_i h0
    rw [unl_and_t h0] at h
    have e : lineE x z l = eachE lkErr 0 l := if_pos h
    (refine rqK rfl ?_; (repeat' first | exact rfl | (refine qS ?_; constructor))) <;> rw [e]
  · rename_i h0
    rw [unl_and_f (q := -10000 ≤ z ∧ z ≤ 10000) h0] at h
    have e : lineE x z l = (0, ldE x z l) := if_neg h
    (refine rqK rfl ?_; (repeat' first | exact rfl | (refine qS ?_; constructor))) <;> rw [e]
    rw [unl_and_f (q := -10000 ≤ z ∧ z ≤ 10000) h0]
  · rename_i h0
    rw [unl_and_f (q := -10000 ≤ z ∧ z ≤ 10000) h0] at h
    have e : lineE x z l = eachE lkErr 0 l := if_pos h
    (refine rqK rfl ?_; (repeat' first | exact rfl | (refine qS ?_; constructor))) <;> rw [e]
theorem fstE_ok : ∀ {l : List Int}, fstE l = 0 ↔ ∀ e ∈ l, e = 0
  | [] => by simp [fstE]
  | e :: l => by
    rw [fstE]
    split
    · rename_i h; rw [fstE_ok (l := l)]; simp [h]
    · rename_i h; simp [h]
theorem unb_ok {b : Bool} {e : Int} (he : e ≠ 0) : unb b e = 0 ↔ b = true := by cases b <;> simp [unb, he]
/-- A valid line. -/
structure LnOk (x z : Int) (l : List Lk) : Prop where
  x : -10000 ≤ x ∧ x ≤ 10000
  z : -10000 ≤ z ∧ z ≤ 10000
  n : 0 < l.length ∧ l.length ≤ 10
  l : ∀ k ∈ l, lkOk k
theorem lineE_ok {x z : Int} {l : List Lk} : (lineE x z l).2 = 0 ↔ LnOk x z l := by
  have h1 : ldE x z l = 0 ↔ ((-10000 ≤ x ∧ x ≤ 10000) ∧ -10000 ≤ z ∧ z ≤ 10000) ∧ 0 < (l.length : Int) ∧ (l.length : Int) ≤ 10 := by
    unfold ldE
    rw [fstE_ok]
    simp only [List.mem_cons, List.not_mem_nil, or_false, forall_eq_or_imp, forall_eq, unl, unb_ok (show (2 : Int) ≠ 0 by decide), unb_ok (show (10 : Int) ≠ 0 by decide), unb_ok (show (8 : Int) ≠ 0 by decide), decide_eq_true_eq]
  unfold lineE
  by_cases h0 : ldE x z l = 0
  · rw [if_pos h0, eachE_ok]
    have h2 := h1.1 h0
    refine ⟨fun h => ⟨h2.1.1, h2.1.2, by omega, fun k hk => by have := h k hk; rwa [lkErr, unl, unb_ok (by decide), decide_eq_true_eq] at this⟩, fun h k hk => ?_⟩
    rw [lkErr, unl, unb_ok (by decide), decide_eq_true_eq]; exact h.l k hk
  · rw [if_neg h0]
    refine ⟨fun h => absurd h h0, fun h => absurd (h1.2 ⟨⟨h.x, h.z⟩, ?_⟩) h0⟩
    have := h.n; omega
/-- A box of a line that was checked. -/
def boxE (n : Nat) (b : List Rg) : Int × Int := if b.length = n then eachE rgErr 0 b else (0, 10)
def lbE (x z : Int) (l : List Lk) (b : List Rg) : Int × Int := if (lineE x z l).2 = 0 then boxE l.length b else lineE x z l
theorem C47 {x z : Int} {l : List Lk} {b : List Rg} : (l.length ≤ 1000000 ∧ b.length ≤ 1000000) → PFD Try.prog 47 [.agg [int x, int z, trs l], .c (prs b)] (.tup [vi .i64 (lbE x z l b).1, vi .i64 (lbE x z l b).2]) := fun ⟨hl, hb⟩ => by
  have hc := C109 (fun i x => C110) hb
  have hc2 := C46 (x := x) (z := z) hl
  refine pi2 fn47 ?_
  (repeat' first | (refine Owe.same ?_; first | refine Owe.o ?_ | refine Owe.mk ?_ ?_) | (refine Fork.same ?_; (first | refine fkD ?_ ?_ | refine fkN ?_ ?_ | refine fkM ?_ ?_) <;> intro h) | ((first | refine OpsL.same ?_ | refine OpsDL.same ?_); first | refine pK hc rfl rfl ?_ | refine pK hc2 rfl rfl ?_) | refine MvQ.stay ?_)
  · have e : lbE x z l b = lineE x z l := if_neg h
    (refine rqK rfl ?_; (repeat' first | exact rfl | (refine qS ?_; constructor))) <;> rw [e]
  · rename_i h0
    have e : lbE x z l b = (0, 10) := by rw [lbE, if_pos h0, boxE, if_neg (by omega)]
    (refine rqK rfl ?_; (repeat' first | exact rfl | (refine qS ?_; constructor))) <;> rw [e]
  · rename_i h0
    have e : lbE x z l b = eachE rgErr 0 b := by rw [lbE, if_pos h0, boxE, if_pos (by omega)]
    (refine rqK rfl ?_; (repeat' first | exact rfl | (refine qS ?_; constructor))) <;> rw [e]
end Go.Pw

set_option linter.unusedSimpArgs false
namespace Go.Pw
set_option maxRecDepth 2000
open Go Go.Proofs A1 A2 A3 A4
structure Ln where
  x : Int
  z : Int
  l : List Lk
  b : List Rg
abbrev Ln.v (L : Ln) : List C := [int L.x, int L.z, trs L.l, prs L.b]
def Ln.h (L : Ln) (k : Nat) : Int := (L.l.getD k (0, 0, 0)).1
def Ln.w (L : Ln) (k : Nat) : Int := (L.l.getD k (0, 0, 0)).2.1
def Ln.d (L : Ln) (k : Nat) : Int := (L.l.getD k (0, 0, 0)).2.2
def Ln.lo (L : Ln) (k : Nat) : Int := (L.b.getD k (0, 0)).1
def Ln.hi (L : Ln) (k : Nat) : Int := (L.b.getD k (0, 0)).2
/-- The pull behind k links; the height of the last one. -/
def Ln.pl (L : Ln) : Nat → Int
  | 0 => L.x
  | k + 1 => L.pl k + L.d k * L.lo k
def Ln.ph (L : Ln) : Nat → Int
  | 0 => L.x
  | k + 1 => L.ph k + L.d k * L.hi k
def Ln.pz (L : Ln) : Nat → Int
  | 0 => L.z
  | k + 1 => L.pz k + L.w k
def Ln.hh (L : Ln) : Nat → Int
  | 0 => 0
  | k + 1 => L.h k
/-- A valid line with ranges of currents. -/
structure Ln.Ok (L : Ln) : Prop where
  k : LnOk L.x L.z L.l
  b : L.b.length = L.l.length
  c : ∀ r ∈ L.b, curOk r.1 ∧ curOk r.2 ∧ r.1 ≤ r.2
theorem getD_mem {α : Type} {l : List α} {k : Nat} (d : α) (h : k < l.length) : l.getD k d ∈ l := by
  rw [List.getD_eq_getElem?_getD, List.getElem?_eq_getElem h]; exact List.getElem_mem _
theorem Ln.Ok.lk {L : Ln} (h : L.Ok) {k : Nat} (hk : k < L.l.length) : (1 ≤ L.h k ∧ L.h k ≤ 1000) ∧ (-1000 ≤ L.w k ∧ L.w k ≤ 1000) ∧ 0 ≤ L.d k ∧ L.d k ≤ 20 := h.k.l _ (getD_mem _ hk)
theorem Ln.Ok.rg {L : Ln} (h : L.Ok) {k : Nat} (hk : k < L.l.length) : (-50 ≤ L.lo k ∧ L.lo k ≤ 50) ∧ (-50 ≤ L.hi k ∧ L.hi k ≤ 50) ∧ L.lo k ≤ L.hi k := h.c _ (getD_mem _ (by rw [h.b]; exact hk))
theorem Ln.Ok.dlo {L : Ln} (h : L.Ok) {k : Nat} (hk : k < L.l.length) : -1000 ≤ L.d k * L.lo k ∧ L.d k * L.lo k ≤ 1000 := by
  have h1 := h.lk hk
  have h2 := h.rg hk
  exact mbd (A := 20) (B := 50) (by omega) (by omega)
theorem Ln.Ok.dhi {L : Ln} (h : L.Ok) {k : Nat} (hk : k < L.l.length) : -1000 ≤ L.d k * L.hi k ∧ L.d k * L.hi k ≤ 1000 := by
  have h1 := h.lk hk
  have h2 := h.rg hk
  exact mbd (A := 20) (B := 50) (by omega) (by omega)
theorem Ln.Ok.bd {L : Ln} (h : L.Ok) : ∀ k : Nat, k ≤ L.l.length → (-20000 ≤ L.pl k ∧ L.pl k ≤ 20000) ∧ (-20000 ≤ L.ph k ∧ L.ph k ≤ 20000) ∧ -20000 ≤ L.pz k ∧ L.pz k ≤ 20000 := by
  have key : ∀ k : Nat, k ≤ L.l.length → (-10000 - 1000 * k ≤ L.pl k ∧ L.pl k ≤ 10000 + 1000 * k) ∧ (-10000 - 1000 * k ≤ L.ph k ∧ L.ph k ≤ 10000 + 1000 * k) ∧ -10000 - 1000 * k ≤ L.pz k ∧ L.pz k ≤ 10000 + 1000 * k := by
    intro k
    induction k with
    | zero => intro _; have := h.k.x; have := h.k.z; simp only [Ln.pl, Ln.ph, Ln.pz]; omega
    | succ k ih =>
      intro hk
      have := ih (by omega)
      have h1 := h.dlo (k := k) (by omega)
      have h2 := h.dhi (k := k) (by omega)
      have h3 := h.lk (k := k) (by omega)
      simp only [Ln.pl, Ln.ph, Ln.pz]
      omega
  intro k hk
  have := key k hk
  have := h.k.n
  omega
/-- What a round over the pulls knows. -/
theorem Ln.Ok.round {L : Ln} (h : L.Ok) {k : Nat} (hk : k < L.l.length) :
    (-1000 ≤ (L.l.getD k (0, 0, 0)).2.2 * (L.b.getD k (0, 0)).1 ∧ (L.l.getD k (0, 0, 0)).2.2 * (L.b.getD k (0, 0)).1 ≤ 1000) ∧
    (-1000 ≤ (L.l.getD k (0, 0, 0)).2.2 * (L.b.getD k (0, 0)).2 ∧ (L.l.getD k (0, 0, 0)).2.2 * (L.b.getD k (0, 0)).2 ≤ 1000) ∧
    (-1000 ≤ (L.l.getD k (0, 0, 0)).2.1 ∧ (L.l.getD k (0, 0, 0)).2.1 ≤ 1000) ∧
    ((-20000 ≤ L.pl k ∧ L.pl k ≤ 20000) ∧ (-20000 ≤ L.ph k ∧ L.ph k ≤ 20000) ∧ -20000 ≤ L.pz k ∧ L.pz k ≤ 20000) ∧ L.b.length = L.l.length ∧ 0 < L.l.length ∧ L.l.length ≤ 10 :=
  ⟨h.dlo hk, h.dhi hk, (h.lk hk).2.1, h.bd k (by omega), h.b, h.k.n.1, h.k.n.2⟩
abbrev dup (n : Int) : Rg := (n, n)
abbrev opE (x z : Int) (l : List Lk) (c : List Int) : Int := fstE [(lineE x z l).2, unl ((c.length : Int) = l.length) 10]
def opn (x z : Int) (l : List Lk) (c : List Int) : Ln × Int := if opE x z l c = 0 then (⟨x, z, l, c.map dup⟩, (eachE curErr 0 c).2) else (⟨0, 0, [], []⟩, opE x z l c)
theorem map_take {α β : Type} (f : α → β) (d : α) (l : List α) (k : Nat) (h : k < l.length) : (l.take (k + 1)).map f = (l.take k).map f ++ [f (l.getD k d)] := by
  rw [List.take_succ_eq_append_getElem h, List.map_append, List.getD_eq_getElem?_getD, List.getElem?_eq_getElem h]; rfl
theorem C95 {x z : Int} {l : List Lk} {c : List Int} : (l.length ≤ 1000000 ∧ c.length ≤ 1000000) → PFD Try.prog 95 [.agg [int x, int z, trs l], .c (ints c)] (.tup [.agg (opn x z l c).1.v, vi .i64 (opn x z l c).2]) := fun ⟨hl, hc⟩ => by
  have c1 := C46 (x := x) (z := z) hl
  have c2 := C102 (fun i x => C140) hc
  refine pi2 fn95 ?_
  (repeat' first | (refine Owe.same ?_; first | refine Owe.o ?_ | refine Owe.mk ?_ ?_) | (refine Fork.same ?_; (first | refine fkD ?_ ?_ | refine fkN ?_ ?_ | refine fkM ?_ ?_) <;> intro h) | ((first | refine OpsL.same ?_ | refine OpsDL.same ?_); first | refine pK c1 rfl rfl ?_ | refine pK c2 rfl rfl ?_ | refine pK C91 rfl rfl ?_ | refine pK C90 rfl rfl ?_) | refine MvQ.stay ?_)
  · have e : opn x z l c = (⟨0, 0, [], []⟩, opE x z l c) := if_neg h
    rw [e]
    (refine rqK rfl ?_; (repeat' first | exact rfl | (refine qS ?_; constructor)))
  · have e : opn x z l c = (⟨x, z, l, c.map dup⟩, (eachE curErr 0 c).2) := if_pos h
    rw [e]
    refine Sat.nilB 2 3 85 2 (fun i => r2 (([] : List Rg).getD i (0, 0))) rfl rfl ?_
    refine Sat.lp (fun k : Nat => ⟨[(39, vi .i64 k), (38, vi .i64 c.length), (37, .c (ints c)), (8, .c (.bp 2 0)), (7, vi .i64 (eachE curErr 0 c).2), (4, .c (.bp 1 0))],
      [(3, rowv 85 2 r2 (0, 0) ((c.take k).map dup)), (2, .box [int x, int z, trs l, .ms 3 ((c.take k).map dup).length]), (1, .box [int 0, int 0, .d (.v (.slice none 0 0)), .d (.v (.slice none 0 0))])], 4⟩)
      (fun k => k ≤ c.length) (fun k => c.length - k) 0 [0, 1, 2, 3] (Nat.zero_le _) ?_ ?_
    · (refine qis ?_ ?_ <;> (repeat' first | exact rfl | (refine qS ?_; constructor)))
    · intro k hk
      have hn : ((c.take k).map dup).length = k := by simp; omega
      (repeat' first | (refine Owe.same ?_; first | refine Owe.o ?_ | refine Owe.mk ?_ ?_) | (refine Fork.same ?_; (first | refine fkD ?_ ?_ | refine fkN ?_ ?_ | refine fkM ?_ ?_) <;> intro h) | refine MvQ.stay ?_)
      · have e3 := map_take dup 0 c k (by omega)
        refine again (k + 1) [0, 1, 2, 4] (by omega) (by omega) ?_
        (refine qis ?_ ?_ <;> (repeat' first | exact rfl | (refine qS ?_; constructor)))
        · exact e3
        · simp; omega
      · have : k = c.length := by omega
        subst this
        refine rqA 0 3 _ rfl rfl rfl rfl ?_; (repeat' first | exact rfl | (refine qS ?_; constructor))
        exact congrArg (List.map dup) (List.take_of_length_le (Nat.le_refl _))
theorem C127 {x z : Int} {l : List Lk} {b : List Rg} : (l.length ≤ 1000000 ∧ b.length ≤ 1000000) → PFD Try.prog 127 [.agg [int x, int z, trs l], .c (prs b)] (.tup [.agg (Ln.mk x z l b).v, vi .i64 (lbE x z l b).2]) := fun hl => by
  have c1 := C47 (x := x) (z := z) hl
  refine pi2 fn127 ?_
  (repeat' first | (refine Owe.same ?_; first | refine Owe.o ?_ | refine Owe.mk ?_ ?_) | (refine Fork.same ?_; (first | refine fkD ?_ ?_ | refine fkN ?_ ?_ | refine fkM ?_ ?_) <;> intro h) | ((first | refine OpsL.same ?_ | refine OpsDL.same ?_); first | refine pK c1 rfl rfl ?_) | refine MvQ.stay ?_)
  (refine rqK rfl ?_; (repeat' first | exact rfl | (refine qS ?_; constructor)))
/-- ErrOpen if a link is slack. -/
def slkE (L : Ln) : Int := if ∀ k, k < L.l.length → 0 < L.pz (k + 1) then 0 else 21
theorem C142 {L : Ln} : L.Ok → PFD Try.prog 142 [.agg L.v] (vi .i64 (slkE L)) := fun hL => by
  refine pi1 fn142 ?_
  (repeat' first | (refine Owe.same ?_; first | refine Owe.o ?_ | refine Owe.mk ?_ ?_) | (refine Fork.same ?_; (first | refine fkD ?_ ?_ | refine fkN ?_ ?_ | refine fkM ?_ ?_) <;> intro h) | refine MvQ.stay ?_)
  refine Ops.cs rfl rfl (CallS.of fn113 rfl ?_)
  refine Sat.keep [2, 6] ?_
  refine Sat.rf rfl rfl (CallS.of fn141 rfl ?_)
  (repeat' first | (refine Owe.same ?_; first | refine Owe.o ?_ | refine Owe.mk ?_ ?_) | (refine Fork.same ?_; (first | refine fkD ?_ ?_ | refine fkN ?_ ?_ | refine fkM ?_ ?_) <;> intro h) | refine MvQ.stay ?_)
  refine Sat.lp (fun k : Nat => ⟨[(24, vi .i64 k), (23, vi .i64 L.l.length), (22, .c (trs L.l)), (3, .c (.bp 4 0)), (1, .c (.bp 2 0)), (0, .c (.yd 3))], [(4, .box [int (L.pl k), int (L.ph k), int (L.pz k), int (L.hh k)]), (3, .lp [(2, .c (.bp 1 0)), (6, .c (.fn 141 [2]))] .ready none (RR Try.prog 12 [7, 8] ra142 rb142)), (2, .box L.v), (1, .box [int 0])], 5⟩)
    (fun k => k ≤ L.l.length ∧ ∀ j, j < k → 0 < L.pz (j + 1)) (fun k => L.l.length - k) 0 [4] ⟨Nat.zero_le _, fun j h => by omega⟩ ?_ ?_
  · (refine qis ?_ ?_ <;> (repeat' first | exact rfl | (refine qS ?_; constructor)))
  · intro k hk
    refine Fork.dec (fun hlt => ?_) (fun hlt => ?_)
    · have hlt : k < L.l.length := by omega
      have hrd := hL.round hlt
      (repeat' first | (refine Owe.same ?_; first | refine Owe.o ?_ | refine Owe.mk ?_ ?_) | (refine Fork.same ?_; (first | refine fkD ?_ ?_ | refine fkN ?_ ?_ | refine fkM ?_ ?_) <;> intro h) | refine MvQ.stay ?_)
      refine Ops.yd rfl rfl rfl rfl rfl ?_
      (repeat' first | (refine Owe.same ?_; first | refine Owe.o ?_ | refine Owe.mk ?_ ?_) | (refine Fork.same ?_; (first | refine fkD ?_ ?_ | refine fkN ?_ ?_ | refine fkM ?_ ?_) <;> intro h) | refine MvQ.stay ?_)
      refine And.intro rfl (Exists.intro _ (And.intro rfl ?_))
      (repeat' first | (refine Owe.same ?_; first | refine Owe.o ?_ | refine Owe.mk ?_ ?_) | (refine Fork.same ?_; (first | refine fkD ?_ ?_ | refine fkN ?_ ?_ | refine fkM ?_ ?_) <;> intro h) | refine MvQ.stay ?_)
      · have h' : L.pz (k + 1) ≤ 0 := h
        refine Exists.intro _ (Exists.intro _ (Exists.intro _ (And.intro rfl ?_)))
        (repeat' first | (refine Owe.same ?_; first | refine Owe.o ?_ | refine Owe.mk ?_ ?_) | (refine Fork.same ?_; (first | refine fkD ?_ ?_ | refine fkN ?_ ?_ | refine fkM ?_ ?_) <;> intro h) | refine MvQ.stay ?_)
        (refine rqK rfl ?_; (repeat' first | exact rfl | (refine qS ?_; constructor)))
        rw [slkE, if_neg (fun hh => by have := hh k hlt; omega)]
      · have h' : ¬ L.pz (k + 1) ≤ 0 := h
        refine Exists.intro _ (Exists.intro _ (Exists.intro _ (And.intro rfl ?_)))
        (repeat' first | (refine Owe.same ?_; first | refine Owe.o ?_ | refine Owe.mk ?_ ?_) | (refine Fork.same ?_; (first | refine fkD ?_ ?_ | refine fkN ?_ ?_ | refine fkM ?_ ?_) <;> intro h) | refine MvQ.stay ?_)
        refine again (k + 1) [4] ⟨hlt, fun j hj => ?_⟩ (by omega) ?_
        · rcases Nat.lt_succ_iff_lt_or_eq.1 hj with h3 | rfl
          · exact hk.2 j h3
          · omega
        · (refine qis ?_ ?_ <;> (repeat' first | exact rfl | (refine qS ?_; constructor)))
    · (repeat' first | (refine Owe.same ?_; first | refine Owe.o ?_ | refine Owe.mk ?_ ?_) | (refine Fork.same ?_; (first | refine fkD ?_ ?_ | refine fkN ?_ ?_ | refine fkM ?_ ?_) <;> intro h) | refine MvQ.stay ?_)
      (refine rqK rfl ?_; (repeat' first | exact rfl | (refine qS ?_; constructor)))
      rw [slkE, if_pos (fun j hj => hk.2 j (by omega))]
theorem C116 {L : Ln} {e : Int} : (e = 0 → L.Ok) → PFD Try.prog 116 [.agg L.v, vi .i64 e] (.tup [.agg L.v, vi .i64 (if e = 0 then slkE L else e)]) := fun hL => by
  by_cases he : e = 0
  · have hc := C142 (hL he)
    rw [if_pos he]
    refine pi2 fn116 ?_
    (repeat' first | (refine Owe.same ?_; first | refine Owe.o ?_ | refine Owe.mk ?_ ?_) | (refine Fork.same ?_; (first | refine fkD ?_ ?_ | refine fkN ?_ ?_ | refine fkM ?_ ?_) <;> intro h) | ((first | refine OpsL.same ?_ | refine OpsDL.same ?_); first | refine pK hc rfl rfl ?_) | refine MvQ.stay ?_)
    · (refine rqK rfl ?_; (repeat' first | exact rfl | (refine qS ?_; constructor)))
    · exact absurd he h
  · rw [if_neg he]
    refine pi2 fn116 ?_
    refine Fork.dec (fun h => absurd h he) (fun h => ?_)
    (repeat' first | (refine Owe.same ?_; first | refine Owe.o ?_ | refine Owe.mk ?_ ?_) | (refine Fork.same ?_; (first | refine fkD ?_ ?_ | refine fkN ?_ ?_ | refine fkM ?_ ?_) <;> intro h) | refine MvQ.stay ?_)
    (refine rqK rfl ?_; (repeat' first | exact rfl | (refine qS ?_; constructor)))
def accL {α : Type} (f : Nat → α) (k : Nat) : List α := (List.range k).map f
theorem accL_succ {α : Type} (f : Nat → α) (k : Nat) : accL f (k + 1) = accL f k ++ [f k] := by simp [accL, List.range_succ]
theorem accL_len {α : Type} (f : Nat → α) (k : Nat) : (accL f k).length = k := by simp [accL]
def sumI (f : Nat → Int) : Nat → Int
  | 0 => 0
  | k + 1 => sumI f k + f k
theorem sumI_bd {f : Nat → Int} {n : Nat} {M : Int} (h : ∀ k, k < n → -M ≤ f k ∧ f k ≤ M) : ∀ k, k ≤ n → -(M * k) ≤ sumI f k ∧ sumI f k ≤ M * k
  | 0, _ => by simp [sumI]
  | k + 1, hk => by
    have h1 := sumI_bd h k (by omega)
    have h2 := h k (by omega)
    have e : M * ((k + 1 : Nat) : Int) = M * k + M := by rw [Int.natCast_add, Int.mul_add]; simp
    rw [e, sumI]; omega
abbrev tnF (L : Ln) (i : Nat) : Rg := (L.pl (i + 1), L.pz (i + 1))
theorem C96 {L : Ln} : L.Ok → PFD Try.prog 96 [.agg L.v] (.c (prs (accL (tnF L) L.l.length))) := fun hL => by
  refine pi1 fn96 ?_
  (repeat' first | (refine Owe.same ?_; first | refine Owe.o ?_ | refine Owe.mk ?_ ?_) | (refine Fork.same ?_; (first | refine fkD ?_ ?_ | refine fkN ?_ ?_ | refine fkM ?_ ?_) <;> intro h) | refine MvQ.stay ?_)
  refine Ops.cs rfl rfl (CallS.of fn113 rfl ?_); refine Sat.keep [3, 7] ?_; refine Sat.rf rfl rfl (CallS.of fn141 rfl ?_); (repeat' first | (refine Owe.same ?_; first | refine Owe.o ?_ | refine Owe.mk ?_ ?_) | (refine Fork.same ?_; (first | refine fkD ?_ ?_ | refine fkN ?_ ?_ | refine fkM ?_ ?_) <;> intro h) | refine MvQ.stay ?_)
  refine Sat.nilB 1 0 46 2 (fun i => r2 (([] : List Rg).getD i (0, 0))) rfl rfl ?_
  refine Sat.lp (fun k : Nat => ⟨[(24, vi .i64 k), (23, vi .i64 L.l.length), (22, .c (trs L.l)), (3, .c (.bp 4 0)), (1, .c (.bp 2 0)), (0, .c (.yd 3))], [(4, .box [int (L.pl k), int (L.ph k), int (L.pz k), int (L.hh k)]), (3, .lp [(3, .c (.bp 1 0)), (7, .c (.fn 141 [2]))] .ready none (RR Try.prog 20 [8, 9] ra96 rb96)), (2, .box L.v), (1, .box [.ms 5 (accL (tnF L) k).length]), (5, rowv 46 2 r2 (0, 0) (accL (tnF L) k))], 6⟩)
    (fun k => k ≤ L.l.length) (fun k => L.l.length - k) 0 [4, 5] (Nat.zero_le _) ?_ ?_
  · (refine qis ?_ ?_ <;> (repeat' first | exact rfl | (refine qS ?_; constructor)))
  · intro k hk
    refine Fork.dec (fun hlt => ?_) (fun hlt => ?_)
    · have hlt : k < L.l.length := by omega
      have hrd := hL.round hlt
      have hn := accL_len (tnF L) k
      (repeat' first | (refine Owe.same ?_; first | refine Owe.o ?_ | refine Owe.mk ?_ ?_) | (refine Fork.same ?_; (first | refine fkD ?_ ?_ | refine fkN ?_ ?_ | refine fkM ?_ ?_) <;> intro h) | refine MvQ.stay ?_)
      refine Ops.yd rfl rfl rfl rfl rfl ?_
      (repeat' first | (refine Owe.same ?_; first | refine Owe.o ?_ | refine Owe.mk ?_ ?_) | (refine Fork.same ?_; (first | refine fkD ?_ ?_ | refine fkN ?_ ?_ | refine fkM ?_ ?_) <;> intro h) | refine MvQ.stay ?_)
      refine And.intro rfl (Exists.intro _ (And.intro rfl ?_))
      (repeat' first | (refine Owe.same ?_; first | refine Owe.o ?_ | refine Owe.mk ?_ ?_) | (refine Fork.same ?_; (first | refine fkD ?_ ?_ | refine fkN ?_ ?_ | refine fkM ?_ ?_) <;> intro h) | refine MvQ.stay ?_)
      refine Exists.intro _ (Exists.intro _ (Exists.intro _ (And.intro rfl ?_)))
      (repeat' first | (refine Owe.same ?_; first | refine Owe.o ?_ | refine Owe.mk ?_ ?_) | (refine Fork.same ?_; (first | refine fkD ?_ ?_ | refine fkN ?_ ?_ | refine fkM ?_ ?_) <;> intro h) | refine MvQ.stay ?_)
      refine again (k + 1) [4, 51] hlt (by omega) ?_
      (refine qis ?_ ?_ <;> (repeat' first | exact rfl | (refine qS ?_; constructor)))
      · simp [accL_len]
      · exact accL_succ _ k
    · (repeat' first | (refine Owe.same ?_; first | refine Owe.o ?_ | refine Owe.mk ?_ ?_) | (refine Fork.same ?_; (first | refine fkD ?_ ?_ | refine fkN ?_ ?_ | refine fkM ?_ ?_) <;> intro h) | refine MvQ.stay ?_)
      have : k = L.l.length := by omega
      subst this
      refine rqF 0 _ rfl rfl rfl ?_; (repeat' first | exact rfl | (refine qS ?_; constructor))
end Go.Pw

set_option linter.unusedSimpArgs false
namespace Go.Pw
set_option maxRecDepth 2000
open Go Go.Proofs A1 A2 A3 A4
theorem opn_ok {x z : Int} {l : List Lk} {c : List Int} (h : (opn x z l c).2 = 0) : (opn x z l c).1 = ⟨x, z, l, c.map dup⟩ ∧ (opn x z l c).1.Ok := by
  unfold opn at h ⊢
  split
  · rename_i h0
    rw [if_pos h0] at h
    refine ⟨rfl, ?_⟩
    simp only [opE] at h0
    rw [fstE_ok] at h0
    simp only [List.mem_cons, List.not_mem_nil, or_false, forall_eq_or_imp, forall_eq, unl, unb_ok (show (10 : Int) ≠ 0 by decide), decide_eq_true_eq] at h0
    rw [eachE_ok] at h
    refine ⟨lineE_ok.1 h0.1, by simp; omega, fun r hr => ?_⟩
    obtain ⟨n, hn, rfl⟩ := List.mem_map.1 hr
    have := h n hn
    rw [curErr, unl, unb_ok (by decide), decide_eq_true_eq] at this
    exact ⟨this, this, Int.le_refl _⟩
  · rename_i h0
    rw [if_neg h0] at h; exact absurd h h0
theorem lbE_ok {x z : Int} {l : List Lk} {b : List Rg} (h : (lbE x z l b).2 = 0) : (Ln.mk x z l b).Ok := by
  unfold lbE at h
  split at h
  · rename_i h0
    unfold boxE at h
    split at h
    · rename_i h1
      rw [eachE_ok] at h
      refine ⟨lineE_ok.1 h0, h1, fun r hr => ?_⟩
      have := h r hr
      rw [rgErr, fstE_ok] at this
      simp only [List.mem_cons, List.not_mem_nil, or_false, forall_eq_or_imp, forall_eq, unl, unb_ok (show (2 : Int) ≠ 0 by decide), unb_ok (show (9 : Int) ≠ 0 by decide), decide_eq_true_eq] at this
      exact ⟨this.1.1, this.1.2, this.2⟩
    · cases h
  · rename_i h0; exact absurd h h0
/-- A list, or none with an error. -/
abbrev orE {α : Type} (e : Int) (l : List α) : List α := if e = 0 then l else []
theorem C29 {x z : Int} {l : List Lk} {c : List Int} : (l.length ≤ 1000000 ∧ c.length ≤ 1000000) → PFD Try.prog 29 [.agg [int x, int z, trs l], .c (ints c)]
    (.tup [.c (prs (orE (opn x z l c).2 (accL (tnF (opn x z l c).1) (opn x z l c).1.l.length))), vi .i64 (opn x z l c).2]) := fun hl => by
  have c1 := C95 (x := x) (z := z) hl
  by_cases h0 : (opn x z l c).2 = 0
  · have c2 := C96 (opn_ok h0).2
    refine pi2 fn29 ?_
    (repeat' first | (refine Owe.same ?_; first | refine Owe.o ?_ | refine Owe.mk ?_ ?_) | (refine Fork.same ?_; (first | refine fkD ?_ ?_ | refine fkN ?_ ?_ | refine fkM ?_ ?_) <;> intro h) | ((first | refine OpsL.same ?_ | refine OpsDL.same ?_); first | refine pK c1 rfl rfl ?_ | refine pK c2 rfl rfl ?_) | refine MvQ.stay ?_)
    · exact absurd h0 h
    · rw [orE, if_pos h0]
      (refine rqK rfl ?_; (repeat' first | exact rfl | (refine qS ?_; constructor)))
      exact h0.symm
  · rw [orE, if_neg h0]
    refine pi2 fn29 ?_
    (repeat' first | (refine Owe.same ?_; first | refine Owe.o ?_ | refine Owe.mk ?_ ?_) | (refine Fork.same ?_; (first | refine fkD ?_ ?_ | refine fkN ?_ ?_ | refine fkM ?_ ?_) <;> intro h) | ((first | refine OpsL.same ?_ | refine OpsDL.same ?_); first | refine pK c1 rfl rfl ?_) | refine MvQ.stay ?_)
    · (refine rqK rfl ?_; (repeat' first | exact rfl | (refine qS ?_; constructor)))
    · exact absurd h h0
abbrev zro (n : Nat) : List Rg := List.replicate n (0, 0)
def stl (x z : Int) (l : List Lk) : Ln := Ln.mk x z l (zro l.length)
end Go.Pw

set_option linter.unusedSimpArgs false
namespace Go.Pw
set_option maxRecDepth 2000
open Go Go.Proofs A1 A2 A3 A4
/-- The error of a line that was opened, and of slack. -/
abbrev tgE (o : Ln × Int) : Int := if o.2 = 0 then slkE o.1 else o.2
structure Ln.Tight (L : Ln) : Prop extends L.Ok where
  t : ∀ k, k < L.l.length → 0 < L.pz (k + 1)
theorem slkE_ok {L : Ln} (h : slkE L = 0) : ∀ k, k < L.l.length → 0 < L.pz (k + 1) := by
  unfold slkE at h
  split at h
  · assumption
  · cases h
/-- What a round over the pulls of a tight line knows besides. -/
theorem Ln.Tight.round {L : Ln} (h : L.Tight) {k : Nat} (hk : k < L.l.length) :
    0 < L.pz k + (L.l.getD k (0, 0, 0)).2.1 ∧ (1 ≤ (L.l.getD k (0, 0, 0)).1 ∧ (L.l.getD k (0, 0, 0)).1 ≤ 1000) ∧
    (-20000000 ≤ (L.l.getD k (0, 0, 0)).1 * (L.pl k + (L.l.getD k (0, 0, 0)).2.2 * (L.b.getD k (0, 0)).1) ∧ (L.l.getD k (0, 0, 0)).1 * (L.pl k + (L.l.getD k (0, 0, 0)).2.2 * (L.b.getD k (0, 0)).1) ≤ 20000000) ∧
    (-20000000 ≤ (L.l.getD k (0, 0, 0)).1 * (L.ph k + (L.l.getD k (0, 0, 0)).2.2 * (L.b.getD k (0, 0)).2) ∧ (L.l.getD k (0, 0, 0)).1 * (L.ph k + (L.l.getD k (0, 0, 0)).2.2 * (L.b.getD k (0, 0)).2) ≤ 20000000) := by
  have h1 := (h.toOk.lk hk).1
  have h2 := h.toOk.bd (k + 1) (by omega)
  have h3 := mbd (A := 1000) (B := 20000) (a := L.h k) (b := L.pl (k + 1)) (by omega) h2.1
  have h4 := mbd (A := 1000) (B := 20000) (a := L.h k) (b := L.ph (k + 1)) (by omega) h2.2.1
  refine ⟨h.t k hk, h1, ?_, ?_⟩
  · simp only [Ln.h, Ln.pl, Ln.d, Ln.lo] at h3; omega
  · simp only [Ln.h, Ln.ph, Ln.d, Ln.hi] at h4; omega
abbrev lbF (L : Ln) (i : Nat) : Int := L.h i * L.pl (i + 1) / L.pz (i + 1)
abbrev ubF (L : Ln) (i : Nat) : Int := ceilI (L.h i * L.ph (i + 1)) (L.pz (i + 1))
theorem Ln.Tight.hl {L : Ln} (h : L.Tight) {k : Nat} (hk : k < L.l.length) : -20000000 ≤ L.h k * L.pl (k + 1) ∧ L.h k * L.pl (k + 1) ≤ 20000000 := (h.round hk).2.2.1
theorem Ln.Tight.hh {L : Ln} (h : L.Tight) {k : Nat} (hk : k < L.l.length) : -20000000 ≤ L.h k * L.ph (k + 1) ∧ L.h k * L.ph (k + 1) ≤ 20000000 := (h.round hk).2.2.2
theorem Ln.Tight.lb {L : Ln} (h : L.Tight) {k : Nat} (hk : k < L.l.length) : -20000000 ≤ lbF L k ∧ lbF L k ≤ 20000000 := ediv_bd (h.t k hk) (h.hl hk)
theorem Ln.Tight.ub {L : Ln} (h : L.Tight) {k : Nat} (hk : k < L.l.length) : -20000000 ≤ ubF L k ∧ ubF L k ≤ 20000000 := by
  have h1 := h.hh hk
  have := ediv_bd (a := -(L.h k * L.ph (k + 1))) (M := 20000000) (h.t k hk) (by omega)
  simp only [ubF, ceilI]; omega
theorem C118 {L : Ln} : L.Tight → PFD Try.prog 118 [.agg L.v] (.agg [int (sumI (lbF L) L.l.length), int (sumI (ubF L) L.l.length)]) := fun hT => by
  have hL := hT.toOk
  refine pi1 fn118 ?_
  (repeat' first | (refine Owe.same ?_; first | refine Owe.o ?_ | refine Owe.mk ?_ ?_) | (refine Fork.same ?_; (first | refine fkD ?_ ?_ | refine fkN ?_ ?_ | refine fkM ?_ ?_) <;> intro h) | refine MvQ.stay ?_)
  refine Ops.cs rfl rfl (CallS.of fn113 rfl ?_); refine Sat.keep [2, 3, 7] ?_; refine Sat.rf rfl rfl (CallS.of fn141 rfl ?_); (repeat' first | (refine Owe.same ?_; first | refine Owe.o ?_ | refine Owe.mk ?_ ?_) | (refine Fork.same ?_; (first | refine fkD ?_ ?_ | refine fkN ?_ ?_ | refine fkM ?_ ?_) <;> intro h) | refine MvQ.stay ?_)
  refine Sat.lp (fun k : Nat => ⟨[(24, vi .i64 k), (23, vi .i64 L.l.length), (22, .c (trs L.l)), (3, .c (.bp 5 0)), (1, .c (.bp 3 0)), (0, .c (.yd 4))], [(5, .box [int (L.pl k), int (L.ph k), int (L.pz k), int (L.hh k)]), (4, .lp [(2, .c (.bp 1 0)), (3, .c (.bp 2 0)), (7, .c (.fn 141 [3]))] .ready none (RR Try.prog 37 [8, 9] ra118 rb118)), (3, .box L.v), (1, .box [int 0, int 0]), (2, .box [int (sumI (lbF L) k), int (sumI (ubF L) k)])], 6⟩)
    (fun k => k ≤ L.l.length) (fun k => L.l.length - k) 0 [5] (Nat.zero_le _) ?_ ?_
  · (refine qis ?_ ?_ <;> (repeat' first | exact rfl | (refine qS ?_; constructor)))
  · intro k hk
    refine Fork.dec (fun hlt => ?_) (fun hlt => ?_)
    · have hlt : k < L.l.length := by omega
      have hrd := hL.round hlt
      have hrt := hT.round hlt
      have s1 := sumI_bd (f := lbF L) (n := L.l.length) (M := 20000000) (fun k hk => hT.lb hk) k hk
      have s2 := sumI_bd (f := ubF L) (n := L.l.length) (M := 20000000) (fun k hk => hT.ub hk) k hk
      have b1 := hT.lb hlt
      have b2 := hT.ub hlt
      simp only [lbF, ubF, Ln.h, Ln.pl, Ln.ph, Ln.pz, Ln.d, Ln.w, Ln.lo, Ln.hi] at b1 b2
      (repeat' first | (refine Owe.same ?_; first | refine Owe.o ?_ | refine Owe.mk ?_ ?_) | (refine Fork.same ?_; (first | refine fkD ?_ ?_ | refine fkN ?_ ?_ | refine fkM ?_ ?_) <;> intro h) | refine MvQ.stay ?_)
      refine Ops.yd rfl rfl rfl rfl rfl ?_
      (repeat' first | (refine Owe.same ?_; first | refine Owe.o ?_ | refine Owe.mk ?_ ?_) | (refine Fork.same ?_; (first | refine fkD ?_ ?_ | refine fkN ?_ ?_ | refine fkM ?_ ?_) <;> intro h) | refine MvQ.stay ?_)
      refine And.intro rfl (Exists.intro _ (And.intro rfl ?_))
      (repeat' first | (refine Owe.same ?_; first | refine Owe.o ?_ | refine Owe.mk ?_ ?_) | (refine Fork.same ?_; (first | refine fkD ?_ ?_ | refine fkN ?_ ?_ | refine fkM ?_ ?_) <;> intro h) | ((first | refine OpsL.same ?_ | refine OpsDL.same ?_); first | refine pK C144 rfl rfl ?_ | refine pK C145 rfl rfl ?_) | refine MvQ.stay ?_)
      refine Exists.intro _ (Exists.intro _ (Exists.intro _ (And.intro rfl ?_)))
      (repeat' first | (refine Owe.same ?_; first | refine Owe.o ?_ | refine Owe.mk ?_ ?_) | (refine Fork.same ?_; (first | refine fkD ?_ ?_ | refine fkN ?_ ?_ | refine fkM ?_ ?_) <;> intro h) | refine MvQ.stay ?_)
      refine again (k + 1) [5] hlt (by omega) ?_
      (refine qis ?_ ?_ <;> (repeat' first | exact rfl | (refine qS ?_; constructor)))
    · (repeat' first | (refine Owe.same ?_; first | refine Owe.o ?_ | refine Owe.mk ?_ ?_) | (refine Fork.same ?_; (first | refine fkD ?_ ?_ | refine fkN ?_ ?_ | refine fkM ?_ ?_) <;> intro h) | refine MvQ.stay ?_)
      have : k = L.l.length := by omega
      subst this
      (refine rqK rfl ?_; (repeat' first | exact rfl | (refine qS ?_; constructor)))
abbrev orP (e : Int) (p : Rg) : Rg := if e = 0 then p else (0, 0)
abbrev laybk (L : Ln) : Rg := (sumI (lbF L) L.l.length, sumI (ubF L) L.l.length)
theorem tgE_ok {o : Ln × Int} (h0 : tgE o = 0) (h : o.2 = 0 → o.1.Ok) : o.1.Tight := by
  unfold tgE at h0
  split at h0
  · rename_i h1; exact ⟨h h1, slkE_ok h0⟩
  · rename_i h1; exact absurd h0 h1
theorem C56 {x z : Int} {l : List Lk} {c : List Int} : (l.length ≤ 1000000 ∧ c.length ≤ 1000000) → PFD Try.prog 56 [.agg [int x, int z, trs l], .c (ints c)]
    (.tup [.agg [int (orP (tgE (opn x z l c)) (laybk (opn x z l c).1)).1, int (orP (tgE (opn x z l c)) (laybk (opn x z l c).1)).2], vi .i64 (tgE (opn x z l c))]) := fun hl => by
  have c1 := C95 (x := x) (z := z) hl
  have c2 := C116 (L := (opn x z l c).1) (e := (opn x z l c).2) (fun h => (opn_ok h).2)
  by_cases h0 : tgE (opn x z l c) = 0
  · have c3 := C118 (tgE_ok h0 fun h => (opn_ok h).2)
    rw [orP, if_pos h0]
    refine pi2 fn56 ?_
    (repeat' first | (refine Owe.same ?_; first | refine Owe.o ?_ | refine Owe.mk ?_ ?_) | (refine Fork.same ?_; (first | refine fkD ?_ ?_ | refine fkN ?_ ?_ | refine fkM ?_ ?_) <;> intro h) | ((first | refine OpsL.same ?_ | refine OpsDL.same ?_); first | refine pK c1 rfl rfl ?_ | refine pK c2 rfl rfl ?_ | refine pK c3 rfl rfl ?_) | refine MvQ.stay ?_)
    · exact absurd h0 h
    · (refine rqK rfl ?_; (repeat' first | exact rfl | (refine qS ?_; constructor)))
      exact h0.symm
  · rw [orP, if_neg h0]
    refine pi2 fn56 ?_
    (repeat' first | (refine Owe.same ?_; first | refine Owe.o ?_ | refine Owe.mk ?_ ?_) | (refine Fork.same ?_; (first | refine fkD ?_ ?_ | refine fkN ?_ ?_ | refine fkM ?_ ?_) <;> intro h) | ((first | refine OpsL.same ?_ | refine OpsDL.same ?_); first | refine pK c1 rfl rfl ?_ | refine pK c2 rfl rfl ?_) | refine MvQ.stay ?_)
    · (refine rqK rfl ?_; (repeat' first | exact rfl | (refine qS ?_; constructor)))
    · exact absurd h h0
/-- A box that was checked. -/
abbrev opb (x z : Int) (l : List Lk) (b : List Rg) : Ln × Int := (⟨x, z, l, b⟩, (lbE x z l b).2)
theorem C70 {x z : Int} {l : List Lk} {b : List Rg} : (l.length ≤ 1000000 ∧ b.length ≤ 1000000) → PFD Try.prog 70 [.agg [int x, int z, trs l], .c (prs b)]
    (.tup [.agg [int (orP (tgE (opb x z l b)) (laybk (opb x z l b).1)).1, int (orP (tgE (opb x z l b)) (laybk (opb x z l b).1)).2], vi .i64 (tgE (opb x z l b))]) := fun hl => by
  have c1 := C127 (x := x) (z := z) hl
  have c2 := C116 (L := (opb x z l b).1) (e := (opb x z l b).2) (fun h => lbE_ok h)
  by_cases h0 : tgE (opb x z l b) = 0
  · have c3 := C118 (tgE_ok h0 fun h => lbE_ok h)
    rw [orP, if_pos h0]
    refine pi2 fn70 ?_
    (repeat' first | (refine Owe.same ?_; first | refine Owe.o ?_ | refine Owe.mk ?_ ?_) | (refine Fork.same ?_; (first | refine fkD ?_ ?_ | refine fkN ?_ ?_ | refine fkM ?_ ?_) <;> intro h) | ((first | refine OpsL.same ?_ | refine OpsDL.same ?_); first | refine pK c1 rfl rfl ?_ | refine pK c2 rfl rfl ?_ | refine pK c3 rfl rfl ?_) | refine MvQ.stay ?_)
    · exact absurd h0 h
    · (refine rqK rfl ?_; (repeat' first | exact rfl | (refine qS ?_; constructor)))
      exact h0.symm
  · rw [orP, if_neg h0]
    refine pi2 fn70 ?_
    (repeat' first | (refine Owe.same ?_; first | refine Owe.o ?_ | refine Owe.mk ?_ ?_) | (refine Fork.same ?_; (first | refine fkD ?_ ?_ | refine fkN ?_ ?_ | refine fkM ?_ ?_) <;> intro h) | ((first | refine OpsL.same ?_ | refine OpsDL.same ?_); first | refine pK c1 rfl rfl ?_ | refine pK c2 rfl rfl ?_) | refine MvQ.stay ?_)
    · (refine rqK rfl ?_; (repeat' first | exact rfl | (refine qS ?_; constructor)))
    · exact absurd h h0
end Go.Pw

set_option linter.unusedSimpArgs false
namespace Go.Pw
set_option maxRecDepth 2000
open Go Go.Proofs A1 A2 A3 A4
abbrev sqF (h z x : Int) : Int := h * h * (x * x + z * z)
abbrev lnF (h z x : Int) : Int := isq ((sqF h z x).tdiv (z * z))
def lenF (h z x : Int) : Rg := (lnF h z x, if lnF h z x * lnF h z x * (z * z) = sqF h z x then lnF h z x else lnF h z x + 1)
theorem len_bd {h z x : Int} (hh : 1 ≤ h ∧ h ≤ 1000) (hz : 0 < z ∧ z ≤ 20000) (hx : -20000 ≤ x ∧ x ≤ 20000) :
    (0 ≤ h * h ∧ h * h ≤ 1000000) ∧ (0 ≤ x * x ∧ x * x ≤ 400000000) ∧ (0 < z * z ∧ z * z ≤ 400000000) ∧ (0 ≤ sqF h z x ∧ sqF h z x ≤ 800000000000000) ∧ (0 ≤ (sqF h z x).tdiv (z * z) ∧ (sqF h z x).tdiv (z * z) ≤ 800000000000000) ∧
    (0 ≤ lnF h z x ∧ lnF h z x ≤ 1073741824) ∧ (0 ≤ lnF h z x * lnF h z x ∧ lnF h z x * lnF h z x ≤ 800000000000000) ∧ (0 ≤ lnF h z x * lnF h z x * (z * z) ∧ lnF h z x * lnF h z x * (z * z) ≤ 800000000000000) := by
  have h1 := mbd (a := h) (b := h) (A := 1000) (B := 1000) (by omega) (by omega)
  have h2 := mbd (a := x) (b := x) (A := 20000) (B := 20000) hx hx
  have h3 := mbd (a := z) (b := z) (A := 20000) (B := 20000) (by omega) (by omega)
  have h4 := sq_nonneg h
  have h5 := sq_nonneg x
  have h6 : 0 < z * z := Int.mul_pos hz.1 hz.1
  have h7 := mbd (a := h * h) (b := x * x + z * z) (A := 1000000) (B := 800000000) (by omega) (by omega)
  have h8 : 0 ≤ sqF h z x := Int.mul_nonneg h4 (by omega)
  have e : (sqF h z x).tdiv (z * z) = sqF h z x / (z * z) := Int.tdiv_eq_ediv_of_nonneg h8
  have h9 : 0 ≤ sqF h z x / (z * z) := Int.ediv_nonneg h8 (by omega)
  have h10 : sqF h z x / (z * z) ≤ sqF h z x := Int.ediv_le_self _ h8
  have hq : 0 ≤ (sqF h z x).tdiv (z * z) ∧ (sqF h z x).tdiv (z * z) ≤ 800000000000000 := by rw [e]; simp only [sqF] at *; omega
  obtain ⟨a1, a2, a3⟩ := isq_spec (n := (sqF h z x).tdiv (z * z)) (by omega)
  have a4 := isq_le (n := (sqF h z x).tdiv (z * z)) (by omega)
  have h11 : lnF h z x * lnF h z x * (z * z) ≤ (sqF h z x).tdiv (z * z) * (z * z) := Int.mul_le_mul_of_nonneg_right a2 (by omega)
  have h12 : (sqF h z x).tdiv (z * z) * (z * z) ≤ sqF h z x := by rw [e]; exact Int.ediv_mul_le _ (by omega)
  have h13 : 0 ≤ lnF h z x * lnF h z x := Int.mul_nonneg a1 a1
  have h14 : 0 ≤ lnF h z x * lnF h z x * (z * z) := Int.mul_nonneg h13 (by omega)
  refine ⟨by omega, by omega, by omega, ⟨h8, by simp only [sqF]; omega⟩, hq, ⟨a1, a4⟩, ⟨h13, by simp only [lnF] at *; omega⟩, h14, ?_⟩
  have : sqF h z x ≤ 800000000000000 := by simp only [sqF]; omega
  omega
theorem C119 {lo hi z g x : Int} : ((1 ≤ g ∧ g ≤ 1000) ∧ (0 < z ∧ z ≤ 20000) ∧ -20000 ≤ x ∧ x ≤ 20000) → PFD Try.prog 119 [.agg [int lo, int hi, int z, int g], vi .i64 x] (.agg [int (lenF g z x).1, int (lenF g z x).2]) := fun ⟨hh, hz, hx⟩ => by
  have hb := len_bd hh hz hx
  simp only [lnF, sqF] at hb
  refine pi1 fn119 ?_
  (repeat' first | (refine Owe.same ?_; first | refine Owe.o ?_ | refine Owe.mk ?_ ?_) | (refine Fork.same ?_; (first | refine fkD ?_ ?_ | refine fkN ?_ ?_ | refine fkM ?_ ?_) <;> intro h) | ((first | refine OpsL.same ?_ | refine OpsDL.same ?_); first | refine pK C146 rfl rfl ?_) | refine MvQ.stay ?_)
  · have e : lenF g z x = (lnF g z x, lnF g z x + 1) := by rw [lenF, if_neg h]
    rw [e]
    (refine rqK rfl ?_; (repeat' first | exact rfl | (refine qS ?_; constructor)))
  · have e : lenF g z x = (lnF g z x, lnF g z x) := by rw [lenF, if_pos h]
    rw [e]
    (refine rqK rfl ?_; (repeat' first | exact rfl | (refine qS ?_; constructor)))
theorem Ln.Tight.z {L : Ln} (h : L.Tight) {k : Nat} (hk : k < L.l.length) : 0 < L.pz (k + 1) ∧ L.pz (k + 1) ≤ 20000 := ⟨h.t k hk, (h.toOk.bd (k + 1) (by omega)).2.2.2⟩
theorem lenF_bd {g z x : Int} (hh : 1 ≤ g ∧ g ≤ 1000) (hz : 0 < z ∧ z ≤ 20000) (hx : -20000 ≤ x ∧ x ≤ 20000) : (-1073741825 ≤ (lenF g z x).1 ∧ (lenF g z x).1 ≤ 1073741825) ∧ -1073741825 ≤ (lenF g z x).2 ∧ (lenF g z x).2 ≤ 1073741825 := by
  have hb := (len_bd hh hz hx).2.2.2.2.2.1
  refine ⟨by unfold lenF; simp only; omega, ?_⟩
  unfold lenF
  simp only
  split <;> omega
/-- What is asked of the length of a link. -/
structure LenOk (F : Int → Int → Int → Rg) : Prop where
  c : ∀ {lo hi z g x : Int}, ((1 ≤ g ∧ g ≤ 1000) ∧ (0 < z ∧ z ≤ 20000) ∧ -20000 ≤ x ∧ x ≤ 20000) → PFD Try.prog 119 [.agg [int lo, int hi, int z, int g], vi .i64 x] (.agg [int (F g z x).1, int (F g z x).2])
  b : ∀ {g z x : Int}, (1 ≤ g ∧ g ≤ 1000) → (0 < z ∧ z ≤ 20000) → (-20000 ≤ x ∧ x ≤ 20000) → (-1073741825 ≤ (F g z x).1 ∧ (F g z x).1 ≤ 1073741825) ∧ -1073741825 ≤ (F g z x).2 ∧ (F g z x).2 ≤ 1073741825
theorem lenF_ok : LenOk lenF := ⟨C119, lenF_bd⟩
abbrev leF (F : Int → Int → Int → Rg) (L : Ln) (i : Nat) : Rg := F (L.h i) (L.pz (i + 1)) (L.pl (i + 1))
abbrev lenL (F : Int → Int → Int → Rg) (L : Ln) : Rg := (sumI (fun i => (leF F L i).1) L.l.length, sumI (fun i => (leF F L i).2) L.l.length)
theorem C57 {F : Int → Int → Int → Rg} (hF : LenOk F) {x z : Int} {l : List Lk} {c : List Int} : (l.length ≤ 1000000 ∧ c.length ≤ 1000000) → PFD Try.prog 57 [.agg [int x, int z, trs l], .c (ints c)]
    (.tup [.agg [int (orP (tgE (opn x z l c)) (lenL F (opn x z l c).1)).1, int (orP (tgE (opn x z l c)) (lenL F (opn x z l c).1)).2], vi .i64 (tgE (opn x z l c))]) := fun hl => by
  have c1 := C95 (x := x) (z := z) hl
  have c2 := C116 (L := (opn x z l c).1) (e := (opn x z l c).2) (fun h => (opn_ok h).2)
  by_cases h0 : tgE (opn x z l c) = 0
  · have hT := tgE_ok h0 fun h => (opn_ok h).2
    rw [orP, if_pos h0]
    obtain ⟨L, hLe⟩ : ∃ L, L = (opn x z l c).1 := ⟨_, rfl⟩
    rw [← hLe] at hT ⊢
    have hL := hT.toOk
    refine pi2 fn57 ?_
    (repeat' first | (refine Owe.same ?_; first | refine Owe.o ?_ | refine Owe.mk ?_ ?_) | (refine Fork.same ?_; (first | refine fkD ?_ ?_ | refine fkN ?_ ?_ | refine fkM ?_ ?_) <;> intro h) | ((first | refine OpsL.same ?_ | refine OpsDL.same ?_); first | refine pK c1 rfl rfl ?_ | refine pK c2 rfl rfl ?_) | refine MvQ.stay ?_)
    · exact absurd h0 h
    rw [← hLe]
    refine Ops.cs rfl rfl (CallS.of fn113 rfl ?_); refine Sat.keep [4, 8, 26] ?_; refine Sat.rf rfl rfl (CallS.of fn141 rfl ?_); (repeat' first | (refine Owe.same ?_; first | refine Owe.o ?_ | refine Owe.mk ?_ ?_) | (refine Fork.same ?_; (first | refine fkD ?_ ?_ | refine fkN ?_ ?_ | refine fkM ?_ ?_) <;> intro h) | refine MvQ.stay ?_)
    refine Sat.lp (fun k : Nat => ⟨[(24, vi .i64 k), (23, vi .i64 L.l.length), (22, .c (trs L.l)), (3, .c (.bp 6 0)), (1, .c (.bp 4 0)), (0, .c (.yd 5))], [(6, .box [int (L.pl k), int (L.ph k), int (L.pz k), int (L.hh k)]), (5, .lp [(4, .c (.bp 1 0)), (8, .c (.bp 3 0)), (26, .c (.fn 141 [4]))] .ready none (RR Try.prog 47 [27, 28] ra57 rb57)), (4, .box L.v), (1, .box [int 0, int 0]), (3, .box [int (sumI (fun i => (leF F L i).1) k), int (sumI (fun i => (leF F L i).2) k)])], 7⟩)
      (fun k => k ≤ L.l.length) (fun k => L.l.length - k) 0 [6] (Nat.zero_le _) ?_ ?_
    · (refine qis ?_ ?_ <;> (repeat' first | exact rfl | (refine qS ?_; constructor)))
    · intro k hk
      refine Fork.dec (fun hlt => ?_) (fun hlt => ?_)
      · have hlt : k < L.l.length := by omega
        have hrd := hL.round hlt
        have b0 := fun j (hj : j < L.l.length) => hF.b (g := L.h j) (hL.lk hj).1 (hT.z hj) (hL.bd (j + 1) (by omega)).1
        have s1 := sumI_bd (f := fun i => (leF F L i).1) (n := L.l.length) (M := 1073741825) (fun j hj => (b0 j hj).1) k hk
        have s2 := sumI_bd (f := fun i => (leF F L i).2) (n := L.l.length) (M := 1073741825) (fun j hj => (b0 j hj).2) k hk
        have b1 := b0 k hlt
        have p1 := (hL.lk hlt).1
        have p2 := hT.z hlt
        have p3 := (hL.bd (k + 1) (by omega)).1
        simp only [Ln.h, Ln.pl, Ln.ph, Ln.pz, Ln.d, Ln.w, Ln.lo, Ln.hi] at b1 p1 p2 p3
        (repeat' first | (refine Owe.same ?_; first | refine Owe.o ?_ | refine Owe.mk ?_ ?_) | (refine Fork.same ?_; (first | refine fkD ?_ ?_ | refine fkN ?_ ?_ | refine fkM ?_ ?_) <;> intro h) | refine MvQ.stay ?_)
        refine Ops.yd rfl rfl rfl rfl rfl ?_
        (repeat' first | (refine Owe.same ?_; first | refine Owe.o ?_ | refine Owe.mk ?_ ?_) | (refine Fork.same ?_; (first | refine fkD ?_ ?_ | refine fkN ?_ ?_ | refine fkM ?_ ?_) <;> intro h) | refine MvQ.stay ?_)
        refine And.intro rfl (Exists.intro _ (And.intro rfl ?_))
        (repeat' first | (refine Owe.same ?_; first | refine Owe.o ?_ | refine Owe.mk ?_ ?_) | (refine Fork.same ?_; (first | refine fkD ?_ ?_ | refine fkN ?_ ?_ | refine fkM ?_ ?_) <;> intro h) | ((first | refine OpsL.same ?_ | refine OpsDL.same ?_); first | refine pK hF.c rfl rfl ?_) | refine MvQ.stay ?_)
        refine Exists.intro _ (Exists.intro _ (Exists.intro _ (And.intro rfl ?_)))
        (repeat' first | (refine Owe.same ?_; first | refine Owe.o ?_ | refine Owe.mk ?_ ?_) | (refine Fork.same ?_; (first | refine fkD ?_ ?_ | refine fkN ?_ ?_ | refine fkM ?_ ?_) <;> intro h) | refine MvQ.stay ?_)
        refine again (k + 1) [6] hlt (by omega) ?_
        (refine qis ?_ ?_ <;> (repeat' first | exact rfl | (refine qS ?_; constructor)))
      · (repeat' first | (refine Owe.same ?_; first | refine Owe.o ?_ | refine Owe.mk ?_ ?_) | (refine Fork.same ?_; (first | refine fkD ?_ ?_ | refine fkN ?_ ?_ | refine fkM ?_ ?_) <;> intro h) | refine MvQ.stay ?_)
        have : k = L.l.length := by omega
        subst this
        (refine rqK rfl ?_; (repeat' first | exact rfl | (refine qS ?_; constructor)))
        exact h0.symm
  · rw [orP, if_neg h0]
    refine pi2 fn57 ?_
    (repeat' first | (refine Owe.same ?_; first | refine Owe.o ?_ | refine Owe.mk ?_ ?_) | (refine Fork.same ?_; (first | refine fkD ?_ ?_ | refine fkN ?_ ?_ | refine fkM ?_ ?_) <;> intro h) | ((first | refine OpsL.same ?_ | refine OpsDL.same ?_); first | refine pK c1 rfl rfl ?_ | refine pK c2 rfl rfl ?_) | refine MvQ.stay ?_)
    · (refine rqK rfl ?_; (repeat' first | exact rfl | (refine qS ?_; constructor)))
    · exact absurd h h0
abbrev enF (F : Int → Int → Int → Rg) (L : Ln) (i : Nat) : Int := (F (L.h i) (L.pz (i + 1)) (max (-L.pl (i + 1)) (L.ph (i + 1)))).2
end Go.Pw

set_option linter.unusedSimpArgs false
namespace Go.Pw
set_option maxRecDepth 2000
open Go Go.Proofs A1 A2 A3 A4
def idxI {α : Type} (f : α → Bool) : Nat → List α → Int
  | _, [] => -1
  | k, x :: l => if f x = true then (k : Int) else idxI f (k + 1) l
theorem idxI_drop {α : Type} (f : α → Bool) (d : α) (l : List α) (k : Nat) (h : k < l.length) : idxI f k (l.drop k) = if f (l.getD k d) = true then (k : Int) else idxI f (k + 1) (l.drop (k + 1)) := by
  rw [List.drop_eq_getElem_cons h, idxI, List.getD_eq_getElem?_getD, List.getElem?_eq_getElem h]
  rfl
theorem idxI_nn {α : Type} {f : α → Bool} : ∀ {l : List α} {k : Nat}, 0 ≤ idxI f k l ↔ ∃ x ∈ l, f x = true
  | [], k => by simp [idxI]
  | x :: l, k => by
    rw [idxI]
    split
    · rename_i h; simp [h]
    · rename_i h; rw [idxI_nn (l := l)]; simp [h]
theorem C153 {g : FuncId} {f : Rg → Bool} (hg : ∀ x : Rg, PFD Try.prog g [.agg [int x.1, int x.2]] (vbl (f x))) {l : List Rg} : l.length ≤ 1000000 → PFD Try.prog 153 [.c (prs l), .c (.fn g [])] (vi .i64 (idxI f 0 l)) := fun hl => by
  refine pi1 fn153 ?_
  (repeat' first | (refine Owe.same ?_; first | refine Owe.o ?_ | refine Owe.mk ?_ ?_) | (refine Fork.same ?_; (first | refine fkD ?_ ?_ | refine fkN ?_ ?_ | refine fkM ?_ ?_) <;> intro h) | refine MvQ.stay ?_)
  refine Sat.lp0 (fun k : Nat => [(8, vi .i64 k), (7, vi .i64 l.length), (6, .c (prs l)), (0, .c (prs l)), (1, .c (.fn g []))]) (fun k => k ≤ l.length ∧ idxI f 0 l = idxI f k (l.drop k)) (fun k => l.length - k) 0 ⟨Nat.zero_le _, rfl⟩ (by ((first | refine qen ?_ | refine qvs ?_ | refine qeq ?_ | refine qst ?_ | refine qv ?_ | refine qc ?_ | refine qe ?_ | refine qcs ?_ | skip); (repeat' first | exact rfl | (refine qS ?_; constructor)))) ?_
  intro k hk
  (repeat' first | (refine Owe.same ?_; first | refine Owe.o ?_ | refine Owe.mk ?_ ?_) | (refine Fork.same ?_; (first | refine fkD ?_ ?_ | refine fkN ?_ ?_ | refine fkM ?_ ?_) <;> intro h) | ((first | refine OpsL.same ?_ | refine OpsDL.same ?_); first | refine pK (hg _) rfl rfl ?_) | refine MvQ.stay ?_)
  · have e := idxI_drop f (0, 0) l k (by omega)
    have h : f (l.getD k (0, 0)) = true := h
    rw [if_pos h, ← hk.2] at e
    (refine rqK rfl ?_; (repeat' first | exact rfl | (refine qS ?_; constructor))); rw [e]
  · have e := idxI_drop f (0, 0) l k (by omega)
    have h : ¬ f (l.getD k (0, 0)) = true := by rw [show f (l.getD k (0, 0)) = false from h]; simp
    rw [if_neg h, ← hk.2] at e
    exact again0 (k + 1) ⟨by omega, e⟩ (by omega) (by ((first | refine qen ?_ | refine qvs ?_ | refine qeq ?_ | refine qst ?_ | refine qv ?_ | refine qc ?_ | refine qe ?_ | refine qcs ?_ | skip); (repeat' first | exact rfl | (refine qS ?_; constructor))))
  · (refine rqK rfl ?_; (repeat' first | exact rfl | (refine qS ?_; constructor)))
    rw [hk.2, List.drop_of_length_le (by omega)]; rfl
abbrev oddP (x : Rg) : Bool := !decide (isPl x)
abbrev plAll (l : List Rg) : Prop := ∀ x ∈ l, isPl x
theorem C136 {l : List Rg} : l.length ≤ 1000000 → PFD Try.prog 136 [.c (prs l), .c (.fn 137 [])] (vbl (!decide (plAll l))) := fun hl => by
  have c1 := C153 (fun x => C137 (p := x)) hl
  refine pi1 fn136 ?_
  (repeat' first | (refine Owe.same ?_; first | refine Owe.o ?_ | refine Owe.mk ?_ ?_) | (refine Fork.same ?_; (first | refine fkD ?_ ?_ | refine fkN ?_ ?_ | refine fkM ?_ ?_) <;> intro h) | ((first | refine OpsL.same ?_ | refine OpsDL.same ?_); first | refine pK c1 rfl rfl ?_) | refine MvQ.stay ?_)
  (refine rqK rfl ?_; (repeat' first | exact rfl | (refine qS ?_; constructor)))
  rw [Bool.eq_iff_iff]
  simp only [decide_eq_true_eq, idxI_nn, Bool.not_eq_true', decide_eq_false_iff_not, plAll, oddP]
  constructor
  · rintro ⟨x, hx, h⟩ ha; exact h (ha x hx)
  · intro h; exact Classical.byContradiction fun hn => h fun x hx => Classical.byContradiction fun hp => hn ⟨x, hx, hp⟩
/-- The error of a path. -/
def pthE (l : List Rg) : Int := fstE [unl (0 < (l.length : Int)) 10, unl ((l.length : Int) ≤ 30) 8, unl (plAll l) 2]
theorem C88 {l : List Rg} : l.length ≤ 1000000 → PFD Try.prog 88 [.c (prs l)] (vi .i64 (pthE l)) := fun hl => by
  have c1 := C136 hl
  refine pi1 fn88 ?_
  (repeat' first | (refine Owe.same ?_; first | refine Owe.o ?_ | refine Owe.mk ?_ ?_) | (refine Fork.same ?_; (first | refine fkD ?_ ?_ | refine fkN ?_ ?_ | refine fkM ?_ ?_) <;> intro h) | ((first | refine OpsL.same ?_ | refine OpsDL.same ?_); first | refine pK c1 rfl rfl ?_ | refine pK C91 rfl rfl ?_ | refine pK C90 rfl rfl ?_) | refine MvQ.stay ?_)
  (refine rqK rfl ?_; (repeat' first | exact rfl | (refine qS ?_; constructor)))
  simp [pthE]
/-- A valid path. -/
structure PthOk (l : List Rg) : Prop where
  n : 0 < l.length ∧ l.length ≤ 30
  p : plAll l
theorem pthE_ok {l : List Rg} : pthE l = 0 ↔ PthOk l := by
  unfold pthE
  rw [fstE_ok]
  simp only [List.mem_cons, List.not_mem_nil, or_false, forall_eq_or_imp, forall_eq, unl, unb_ok (show (2 : Int) ≠ 0 by decide), unb_ok (show (10 : Int) ≠ 0 by decide), unb_ok (show (8 : Int) ≠ 0 by decide), decide_eq_true_eq]
  exact ⟨fun h => ⟨by omega, h.2.2⟩, fun h => ⟨by have := h.n; omega, by have := h.n; omega, h.p⟩⟩
abbrev sideI (a b q : Rg) : Int := (b.1 - a.1) * (q.2 - a.2) - (b.2 - a.2) * (q.1 - a.1)
theorem side_bd {a b q : Rg} (ha : isPl a) (hb : isPl b) (hq : isPl q) : (-400000000 ≤ (b.1 - a.1) * (q.2 - a.2) ∧ (b.1 - a.1) * (q.2 - a.2) ≤ 400000000) ∧ -400000000 ≤ (b.2 - a.2) * (q.1 - a.1) ∧ (b.2 - a.2) * (q.1 - a.1) ≤ 400000000 := by
  obtain ⟨h1, h2⟩ := ha
  obtain ⟨h3, h4⟩ := hb
  obtain ⟨h5, h6⟩ := hq
  exact ⟨mbd (A := 20000) (B := 20000) (by omega) (by omega), mbd (A := 20000) (B := 20000) (by omega) (by omega)⟩
abbrev inB (a b q : Rg) : Prop := (min a.1 b.1 ≤ q.1 ∧ q.1 ≤ max a.1 b.1) ∧ min a.2 b.2 ≤ q.2 ∧ q.2 ≤ max a.2 b.2
abbrev onI (a b q : Rg) : Prop := sideI a b q = 0 ∧ inB a b q
abbrev stpI (a b q : Rg) : Int := if a.2 ≤ q.2 ∧ q.2 < b.2 ∧ 0 < sideI a b q then 1 else if b.2 ≤ q.2 ∧ q.2 < a.2 ∧ sideI a b q < 0 then -1 else 0
/-- Way k of a closed path. -/
abbrev wyA (l : List Rg) (k : Nat) : Rg := l.getD k (0, 0)
abbrev wyB (l : List Rg) (k : Nat) : Rg := l.getD ((k + 1) % l.length) (0, 0)
def sumP (f : Nat → Int) : Nat → Int
  | 0 => 0
  | k + 1 => sumP f k + f k
def wndI (l : List Rg) (q : Rg) : Int := sumP (fun k => stpI (wyA l k) (wyB l k) q) l.length
def noOn (l : List Rg) (q : Rg) : Prop := ∀ k, k < l.length → ¬ onI (wyA l k) (wyB l k) q
instance (l : List Rg) (q : Rg) : Decidable (noOn l q) := inferInstanceAs (Decidable (∀ k, k < l.length → ¬ onI (wyA l k) (wyB l k) q))
theorem C155 {p q : Rg} : (isPl p ∧ isPl q) → PFD Try.prog 155 [.agg [int p.1, int p.2], .agg [int q.1, int q.2]] (.agg [int (p.1 - q.1), int (p.2 - q.2)]) := fun h => by
  refine pi1 fn155 ?_
  (repeat' first | (refine Owe.same ?_; first | refine Owe.o ?_ | refine Owe.mk ?_ ?_) | (refine Fork.same ?_; (first | refine fkD ?_ ?_ | refine fkN ?_ ?_ | refine fkM ?_ ?_) <;> intro h) | refine MvQ.stay ?_)
  (refine rqK rfl ?_; (repeat' first | exact rfl | (refine qS ?_; constructor)))
theorem C156 {a b c d : Int} : ((-20000 ≤ a ∧ a ≤ 20000) ∧ (-20000 ≤ b ∧ b ≤ 20000) ∧ (-20000 ≤ c ∧ c ≤ 20000) ∧ -20000 ≤ d ∧ d ≤ 20000) → PFD Try.prog 156 [.agg [int a, int b], .agg [int c, int d]] (vi .i64 (a * d - b * c)) := fun h => by
  have h1 := mbd (A := 20000) (B := 20000) h.1 h.2.2.2
  have h2 := mbd (A := 20000) (B := 20000) h.2.1 h.2.2.1
  refine pi1 fn156 ?_
  (repeat' first | (refine Owe.same ?_; first | refine Owe.o ?_ | refine Owe.mk ?_ ?_) | (refine Fork.same ?_; (first | refine fkD ?_ ?_ | refine fkN ?_ ?_ | refine fkM ?_ ?_) <;> intro h) | refine MvQ.stay ?_)
  (refine rqK rfl ?_; (repeat' first | exact rfl | (refine qS ?_; constructor)))
end Go.Pw

set_option linter.unusedSimpArgs false
namespace Go.Pw
set_option maxRecDepth 2000
open Go Go.Proofs A1 A2 A3 A4
theorem sumP_bd {f : Nat → Int} (h : ∀ k, -1 ≤ f k ∧ f k ≤ 1) : ∀ k : Nat, -(k : Int) ≤ sumP f k ∧ sumP f k ≤ k
  | 0 => by simp [sumP]
  | k + 1 => by have := sumP_bd h k; have := h k; simp only [sumP]; omega
theorem stp_bd (a b q : Rg) : -1 ≤ stpI a b q ∧ stpI a b q ≤ 1 := by unfold stpI; split <;> (try split) <;> omega
theorem pl_getD {l : List Rg} (h : plAll l) {k : Nat} (hk : k < l.length) : isPl (l.getD k (0, 0)) := h _ (getD_mem _ hk)
set_option maxHeartbeats 4000000 in
theorem C139 {l : List Rg} {q : Rg} : (l.length ≤ 1000000 ∧ plAll l ∧ isPl q) → PFD Try.prog 139 [.c (prs l), .agg [int q.1, int q.2]] (.tup [vi .i64 (if noOn l q then wndI l q else 0), vbl (decide (noOn l q))]) := fun ⟨hl, hp, hq⟩ => by
  refine pi2 fn139 ?_
  (repeat' first | (refine Owe.same ?_; first | refine Owe.o ?_ | refine Owe.mk ?_ ?_) | (refine Fork.same ?_; (first | refine fkD ?_ ?_ | refine fkN ?_ ?_ | refine fkM ?_ ?_) <;> intro h) | refine MvQ.stay ?_)
  refine Ops.cs rfl rfl (CallS.of fn154 rfl ?_)
  (repeat' first | (refine Owe.same ?_; first | refine Owe.o ?_ | refine Owe.mk ?_ ?_) | (refine Fork.same ?_; (first | refine fkD ?_ ?_ | refine fkN ?_ ?_ | refine fkM ?_ ?_) <;> intro h) | refine MvQ.stay ?_)
  refine Sat.keep [3, 4, 5, 6, 12] ?_
  refine Sat.rf rfl rfl (CallS.of fn157 rfl ?_)
  (repeat' first | (refine Owe.same ?_; first | refine Owe.o ?_ | refine Owe.mk ?_ ?_) | (refine Fork.same ?_; (first | refine fkD ?_ ?_ | refine fkN ?_ ?_ | refine fkM ?_ ?_) <;> intro h) | refine MvQ.stay ?_)
  refine Sat.lp (fun k : Nat => ⟨[(7, vi .i64 k), (6, vi .i64 l.length), (5, .c (prs l)), (0, .c (.yd 5)), (1, .c (.bp 4 0))], [(5, .lp [(3, .c (.bp 0 0)), (4, .c (.bp 1 0)), (5, .c (.bp 2 0)), (6, .c (.bp 3 0)), (12, .c (.fn 157 [4]))] .ready none (RR Try.prog 95 [13, 14] ra139 rb139)), (4, .box [prs l]), (3, .box [int (sumP (fun k => stpI (wyA l k) (wyB l k) q) k)]), (2, .box [.d (.v (.bool false))]), (1, .box [int 0]), (0, .box [int q.1, int q.2])], 6⟩)
    (fun k => k ≤ l.length ∧ ∀ i, i < k → ¬ onI (wyA l i) (wyB l i) q) (fun k => l.length - k) 0 [] ⟨Nat.zero_le _, fun i hi => absurd hi (Nat.not_lt_zero _)⟩ ?_ ?_
  · (refine qis ?_ ?_ <;> (repeat' first | exact rfl | (refine qS ?_; constructor)))
  · intro k hk
    refine Fork.dec (fun hlt => ?_) (fun hlt => ?_)
    · have hlt : k < l.length := by omega
      have hm : (k + 1) % l.length < l.length := Nat.mod_lt _ (by omega)
      have htm : ((k : Int) + 1).tmod (l.length : Int) = (((k + 1) % l.length : Nat) : Int) := by rw [Int.tmod_eq_emod_of_nonneg (by omega)]; rfl
      have htb : 0 ≤ ((k : Int) + 1).tmod (l.length : Int) ∧ ((k : Int) + 1).tmod (l.length : Int) < l.length := by rw [htm]; omega
      have hw : l.getD (((k : Int) + 1).tmod (l.length : Int)).toNat (0, 0) = wyB l k := by rw [htm]; rfl
      have hon : onI (wyA l k) (wyB l k) q ↔ onI (l.getD (k : Int).toNat (0, 0)) (l.getD (((k : Int) + 1).tmod (l.length : Int)).toNat (0, 0)) q := by rw [hw]; exact Iff.rfl
      have hst : sumP (fun k => stpI (wyA l k) (wyB l k) q) (k + 1) = sumP (fun k => stpI (wyA l k) (wyB l k) q) k + stpI (l.getD (k : Int).toNat (0, 0)) (l.getD (((k : Int) + 1).tmod (l.length : Int)).toNat (0, 0)) q := by rw [hw]; rfl
      have ha := pl_getD hp hlt
      have hb : isPl (l.getD (((k : Int) + 1).tmod (l.length : Int)).toNat (0, 0)) := by rw [hw]; exact pl_getD hp hm
      have hs := side_bd ha hb hq
      have hsu := sumP_bd (f := fun k => stpI (wyA l k) (wyB l k) q) (fun k => stp_bd _ _ _) k
      have ha0 := ha
      have hb0 := hb
      have hq0 := hq
      obtain ⟨ha1, ha2⟩ := ha
      obtain ⟨hb1, hb2⟩ := hb
      obtain ⟨hq1, hq2⟩ := hq
      (repeat' first | (refine Owe.same ?_; first | refine Owe.o ?_ | refine Owe.mk ?_ ?_) | (refine Fork.same ?_; (first | refine fkD ?_ ?_ | refine fkN ?_ ?_ | refine fkM ?_ ?_) <;> intro h) | refine MvQ.stay ?_)
      refine OpsD.seq' (by rfl) (by rfl) ?_
      refine Ops.yd rfl rfl rfl rfl rfl ?_
      (repeat' first | (refine Owe.same ?_; first | refine Owe.o ?_ | refine Owe.mk ?_ ?_) | (refine Fork.same ?_; (first | refine fkD ?_ ?_ | refine fkN ?_ ?_ | refine fkM ?_ ?_) <;> intro h) | refine MvQ.stay ?_)
      refine And.intro rfl (Exists.intro _ (And.intro rfl ?_))
      (repeat' first | (refine Owe.same ?_; first | refine Owe.o ?_ | refine Owe.mk ?_ ?_) | (refine Fork.same ?_; (first | refine fkD ?_ ?_ | refine fkN ?_ ?_ | refine fkM ?_ ?_) <;> intro h) | ((first | refine OpsL.same ?_ | refine OpsDL.same ?_); first | refine pK C155 rfl rfl ?_ | refine pK C156 rfl rfl ?_ | refine pK C104 rfl rfl ?_) | refine MvQ.stay ?_)
      all_goals (refine Exists.intro _ (Exists.intro _ (Exists.intro _ (And.intro rfl ?_))); (repeat' first | (refine Owe.same ?_; first | refine Owe.o ?_ | refine Owe.mk ?_ ?_) | (refine Fork.same ?_; (first | refine fkD ?_ ?_ | refine fkN ?_ ?_ | refine fkM ?_ ?_) <;> intro h) | refine MvQ.stay ?_))
      · (refine rqK rfl ?_; (repeat' first | exact rfl | (refine qS ?_; constructor)))
        · rw [if_neg (fun hn => hn k hlt (hon.2 (by simp only [onI, inB, sideI]; omega)))]
        · exact decide_eq_false fun (hn : noOn l q) => hn k hlt (hon.2 (by simp only [onI, inB, sideI]; omega))
      all_goals
        clear hs hsu ha0 hb0 hq0 ha1 ha2 hb1 hb2 hq1 hq2 htb
        refine again (k + 1) [] ⟨hlt, fun i hi => ?_⟩ (by omega) ?_
        · rcases Nat.lt_succ_iff_lt_or_eq.1 hi with h4 | rfl
          · exact hk.2 i h4
          · rw [hon]; simp only [onI, inB, sideI]; omega
        · (refine qis ?_ ?_ <;> (repeat' first | exact rfl | (refine qS ?_; constructor)))
          rw [hst]; unfold stpI sideI; split <;> (try split) <;> omega
    · (repeat' first | (refine Owe.same ?_; first | refine Owe.o ?_ | refine Owe.mk ?_ ?_) | (refine Fork.same ?_; (first | refine fkD ?_ ?_ | refine fkN ?_ ?_ | refine fkM ?_ ?_) <;> intro h) | refine MvQ.stay ?_)
      have : k = l.length := by omega
      subst this
      have hn : noOn l q := hk.2
      (refine rqK rfl ?_; (repeat' first | exact rfl | (refine qS ?_; constructor)))
      · rw [if_pos hn]; rfl
      · exact decide_eq_true hn
end Go.Pw

set_option linter.unusedSimpArgs false
namespace Go.Pw
set_option maxRecDepth 2000
open Go Go.Proofs A1 A2 A3 A4
/-- The error of a post. -/
def postE (l : List Rg) (q : Rg) : Int := if isPl q then (if noOn l q then 0 else 13) else 2
theorem C89 {l : List Rg} {q : Rg} : (l.length ≤ 1000000 ∧ plAll l) → PFD Try.prog 89 [.c (prs l), .agg [int q.1, int q.2]] (.tup [vi .i64 (if postE l q = 0 then wndI l q else 0), vi .i64 (postE l q)]) := fun ⟨hl, hp⟩ => by
  by_cases hq : isPl q
  · have c1 := C139 ⟨hl, hp, hq⟩
    refine pi2 fn89 ?_
    (repeat' first | (refine Owe.same ?_; first | refine Owe.o ?_ | refine Owe.mk ?_ ?_) | (refine Fork.same ?_; (first | refine fkD ?_ ?_ | refine fkN ?_ ?_ | refine fkM ?_ ?_) <;> intro h) | ((first | refine OpsL.same ?_ | refine OpsDL.same ?_); first | refine pK C138 rfl rfl ?_ | refine pK c1 rfl rfl ?_ | refine pK C91 rfl rfl ?_) | refine MvQ.stay ?_)
    · exact absurd hq h
    · by_cases hn : noOn l q
      · have e : postE l q = 0 := by simp only [postE]; rw [if_pos hq, if_pos hn]
        (refine rqK rfl ?_; (repeat' first | exact rfl | (refine qS ?_; constructor)))
        · rw [if_pos hn, if_pos e]
        · rw [e]; simp [unb, hn]
      · have e : postE l q = 13 := by simp only [postE]; rw [if_pos hq, if_neg hn]
        (refine rqK rfl ?_; (repeat' first | exact rfl | (refine qS ?_; constructor)))
        · rw [if_neg hn, e]; rfl
        · rw [e]; simp [unb, hn]
  · have e : postE l q = 2 := by simp only [postE]; rw [if_neg hq]
    refine pi2 fn89 ?_
    (repeat' first | (refine Owe.same ?_; first | refine Owe.o ?_ | refine Owe.mk ?_ ?_) | (refine Fork.same ?_; (first | refine fkD ?_ ?_ | refine fkN ?_ ?_ | refine fkM ?_ ?_) <;> intro h) | ((first | refine OpsL.same ?_ | refine OpsDL.same ?_); first | refine pK C138 rfl rfl ?_) | refine MvQ.stay ?_)
    · (refine rqK rfl ?_; (repeat' first | exact rfl | (refine qS ?_; constructor)))
      · rw [e]; rfl
      · rw [e]
    · exact absurd h hq
def wofE (l : List Rg) (q : Rg) : Int := if pthE l = 0 then postE l q else pthE l
theorem C18 {l : List Rg} {q : Rg} : l.length ≤ 1000000 → PFD Try.prog 18 [.c (prs l), .agg [int q.1, int q.2]] (.tup [vi .i64 (if wofE l q = 0 then wndI l q else 0), vi .i64 (wofE l q)]) := fun hl => by
  have c1 := C88 hl
  by_cases h0 : pthE l = 0
  · have c2 := C89 (q := q) ⟨hl, (pthE_ok.1 h0).p⟩
    rw [wofE, if_pos h0]
    refine pi2 fn18 ?_
    (repeat' first | (refine Owe.same ?_; first | refine Owe.o ?_ | refine Owe.mk ?_ ?_) | (refine Fork.same ?_; (first | refine fkD ?_ ?_ | refine fkN ?_ ?_ | refine fkM ?_ ?_) <;> intro h) | ((first | refine OpsL.same ?_ | refine OpsDL.same ?_); first | refine pK c1 rfl rfl ?_ | refine pK c2 rfl rfl ?_) | refine MvQ.stay ?_)
    · exact absurd h0 h
    · (refine rqK rfl ?_; (repeat' first | exact rfl | (refine qS ?_; constructor)))
  · rw [wofE, if_neg h0]
    refine pi2 fn18 ?_
    (repeat' first | (refine Owe.same ?_; first | refine Owe.o ?_ | refine Owe.mk ?_ ?_) | (refine Fork.same ?_; (first | refine fkD ?_ ?_ | refine fkN ?_ ?_ | refine fkM ?_ ?_) <;> intro h) | ((first | refine OpsL.same ?_ | refine OpsDL.same ?_); first | refine pK c1 rfl rfl ?_) | refine MvQ.stay ?_)
    · (refine rqK rfl ?_; (repeat' first | exact rfl | (refine qS ?_; constructor)))
      exact (if_neg h0).symm
    · exact absurd h h0
end Go.Pw

set_option linter.unusedSimpArgs false
namespace Go.Pw
set_option maxRecDepth 2000
open Go Go.Proofs A1 A2 A3 A4
abbrev sqI (a : Rg) : Int := a.1 * a.1 + a.2 * a.2
theorem C99 {a : Rg} : ((-20000 ≤ a.1 ∧ a.1 ≤ 20000) ∧ -20000 ≤ a.2 ∧ a.2 ≤ 20000) → PFD Try.prog 99 [.agg [int a.1, int a.2]] (vi .i64 (sqI a)) := fun h => by
  have h1 := mbd (A := 20000) (B := 20000) h.1 h.1
  have h2 := mbd (A := 20000) (B := 20000) h.2 h.2
  refine pi1 fn99 ?_
  (repeat' first | (refine Owe.same ?_; first | refine Owe.o ?_ | refine Owe.mk ?_ ?_) | (refine Fork.same ?_; (first | refine fkD ?_ ?_ | refine fkN ?_ ?_ | refine fkM ?_ ?_) <;> intro h) | refine MvQ.stay ?_)
  (refine rqK rfl ?_; (repeat' first | exact rfl | (refine qS ?_; constructor)))
theorem mul_self_nn (a : Int) : 0 ≤ a * a := by
  rcases Int.le_total 0 a with h | h
  · exact Int.mul_nonneg h h
  · exact Int.mul_nonneg_of_nonpos_of_nonpos h h
abbrev tnOk (a : Rg) : Prop := (-20000 ≤ a.1 ∧ a.1 ≤ 20000) ∧ 0 < a.2 ∧ a.2 ≤ 20000
theorem sq_bd {a : Rg} (h : tnOk a) : 0 < sqI a ∧ sqI a ≤ 800000000 := by
  have h1 := mbd (A := 20000) (B := 20000) h.1 h.1
  have h2 := mbd (A := 20000) (B := 20000) (a := a.2) (b := a.2) (by omega) (by omega)
  have h3 : 0 ≤ a.1 * a.1 := mul_self_nn _
  have h4 : 0 < a.2 * a.2 := Int.mul_pos h.2.1 h.2.1
  simp only [sqI]; omega
theorem accL_get {α : Type} (f : Nat → α) {d : α} {n i : Nat} (h : i < n) : (accL f n).getD i d = f i := by
  simp [accL, List.getD_eq_getElem?_getD, h]
abbrev trnI (a b : Rg) : Int := b.1 * a.2 - a.1 * b.2
abbrev bendF (a b : Rg) : Rg := frac (trnI a b * trnI a b) (sqI a * sqI b)
abbrev bdF (l : List Rg) (i : Nat) : Rg := bendF (l.getD (i + 1) (0, 0)) (l.getD i (0, 0))
def bdL (l : List Rg) : List Rg := accL (bdF l) (l.length - 1)
theorem C58 {x z : Int} {l : List Lk} {c : List Int} : (l.length ≤ 1000000 ∧ c.length ≤ 1000000) → PFD Try.prog 58 [.agg [int x, int z, trs l], .c (ints c)]
    (.tup [.c (prs (orE (tgE (opn x z l c)) (bdL (accL (tnF (opn x z l c).1) (opn x z l c).1.l.length)))), vi .i64 (tgE (opn x z l c))]) := fun hl => by
  have c1 := C95 (x := x) (z := z) hl
  have c2 := C116 (L := (opn x z l c).1) (e := (opn x z l c).2) (fun h => (opn_ok h).2)
  by_cases h0 : tgE (opn x z l c) = 0
  · have hT : (opn x z l c).1.Tight := by
      unfold tgE at h0
      split at h0
      · rename_i h1; exact ⟨(opn_ok h1).2, slkE_ok h0⟩
      · rename_i h1; exact absurd h0 h1
    rw [orE, if_pos h0]
    obtain ⟨L, hLe⟩ : ∃ L, L = (opn x z l c).1 := ⟨_, rfl⟩
    rw [← hLe] at hT ⊢
    have hL := hT.toOk
    have c3 := C96 hL
    obtain ⟨T, hTe⟩ : ∃ T, T = accL (tnF L) L.l.length := ⟨_, rfl⟩
    rw [← hTe] at c3 ⊢
    have hTl : T.length = L.l.length := by rw [hTe, accL_len]
    have hT0 : 0 < T.length ∧ T.length ≤ 10 := by rw [hTl]; exact hL.k.n
    have hTb : ∀ i, i < T.length → tnOk (T.getD i (0, 0)) := fun i hi => by
      rw [hTe, accL_get _ (by omega)]
      have h1 := hL.bd (i + 1) (by omega)
      have h2 := hT.t i (by omega)
      exact ⟨h1.1, h2, h1.2.2.2⟩
    refine pi2 fn58 ?_
    (repeat' first | (refine Owe.same ?_; first | refine Owe.o ?_ | refine Owe.mk ?_ ?_) | (refine Fork.same ?_; (first | refine fkD ?_ ?_ | refine fkN ?_ ?_ | refine fkM ?_ ?_) <;> intro h) | ((first | refine OpsL.same ?_ | refine OpsDL.same ?_); first | refine pK c1 rfl rfl ?_ | refine pK c2 rfl rfl ?_) | refine MvQ.stay ?_)
    · exact absurd h0 h
    rw [← hLe]
    (repeat' first | (refine Owe.same ?_; first | refine Owe.o ?_ | refine Owe.mk ?_ ?_) | (refine Fork.same ?_; (first | refine fkD ?_ ?_ | refine fkN ?_ ?_ | refine fkM ?_ ?_) <;> intro h) | ((first | refine OpsL.same ?_ | refine OpsDL.same ?_); first | refine pK c3 rfl rfl ?_) | refine MvQ.stay ?_)
    refine Sat.nilS 8 89 2 (fun i => r2 (([] : List Rg).getD i (0, 0))) rfl ?_
    refine Sat.lp (fun k : Nat => ⟨[(31, vi .i64 k), (30, vi .i64 ((T.length - 1 : Nat) : Int)), (29, .c (.d (.sl 2 (T.length - 1) fun i => r2 (T.getD (1 + i) (0, 0))))), (9, .c (prs T)), (8, .c (.ms 2 (accL (bdF T) k).length))], [(2, rowv 89 2 r2 (0, 0) (accL (bdF T) k)), (1, .box [int L.x, int L.z, trs L.l, prs L.b]), (0, .box [int x, int z, trs l])], 3⟩)
      (fun k => k ≤ T.length - 1) (fun k => T.length - 1 - k) 0 [0, 1, 2] (Nat.zero_le _) ?_ ?_
    · (refine qis ?_ ?_ <;> (repeat' first | exact rfl | (refine qS ?_; constructor)))
    · intro k hk
      refine Fork.dec (fun hlt => ?_) (fun hlt => ?_)
      · have hlt : k < T.length - 1 := by omega
        have hn := accL_len (bdF T) k
        have hs := accL_succ (bdF T) k
        have ha := hTb (1 + k) (by omega)
        have hb := hTb k (by omega)
        obtain ⟨a, hae⟩ : ∃ a, a = T.getD (1 + k) (0, 0) := ⟨_, rfl⟩
        obtain ⟨b, hbe⟩ : ∃ b, b = T.getD k (0, 0) := ⟨_, rfl⟩
        rw [← hae] at ha
        rw [← hbe] at hb
        have h1 := mbd (A := 20000) (B := 20000) (a := b.1) (b := a.2) hb.1 (by omega)
        have h2 := mbd (A := 20000) (B := 20000) (a := a.1) (b := b.2) ha.1 (by omega)
        have h3 := mbd (A := 800000000) (B := 800000000) (a := trnI a b) (b := trnI a b) (by simp only [trnI]; omega) (by simp only [trnI]; omega)
        have h4 := sq_bd ha
        have h5 := sq_bd hb
        have h6 := mbd (A := 800000000) (B := 800000000) (a := sqI a) (b := sqI b) (by omega) (by omega)
        have h7 : 0 < sqI a * sqI b := Int.mul_pos h4.1 h5.1
        have c6 := C117 (n := trnI a b * trnI a b) (d := sqI a * sqI b) (by omega)
        obtain ⟨f, hf⟩ : ∃ f, f = bendF a b := ⟨_, rfl⟩
        rw [show frac (trnI a b * trnI a b) (sqI a * sqI b) = f from hf.symm] at c6
        obtain ⟨ha1, ha2⟩ := ha
        obtain ⟨hb1, hb2⟩ := hb
        subst hae
        subst hbe
        simp only [trnI] at h3 c6
        (repeat' first | (refine Owe.same ?_; first | refine Owe.o ?_ | refine Owe.mk ?_ ?_) | (refine Fork.same ?_; (first | refine fkD ?_ ?_ | refine fkN ?_ ?_ | refine fkM ?_ ?_) <;> intro h) | ((first | refine OpsL.same ?_ | refine OpsDL.same ?_); first | refine pK C99 rfl rfl ?_ | refine pK c6 rfl rfl ?_) | refine MvQ.stay ?_)
        have hfe : bdF T k = f := by rw [hf, Nat.add_comm 1 k]
        rw [hfe] at hs
        refine again (k + 1) [0, 1, 13] (by omega) (by omega) ?_
        (refine qis ?_ ?_ <;> (repeat' first | exact rfl | (refine qS ?_; constructor)))
        · rw [hs]; simp
        · exact hs
      · (repeat' first | (refine Owe.same ?_; first | refine Owe.o ?_ | refine Owe.mk ?_ ?_) | (refine Fork.same ?_; (first | refine fkD ?_ ?_ | refine fkN ?_ ?_ | refine fkM ?_ ?_) <;> intro h) | refine MvQ.stay ?_)
        have : k = T.length - 1 := by omega
        subst this
        refine rqF 0 _ rfl rfl rfl ?_; (repeat' first | exact rfl | (refine qS ?_; constructor))
        exact h0.symm
  · rw [orE, if_neg h0]
    refine pi2 fn58 ?_
    (repeat' first | (refine Owe.same ?_; first | refine Owe.o ?_ | refine Owe.mk ?_ ?_) | (refine Fork.same ?_; (first | refine fkD ?_ ?_ | refine fkN ?_ ?_ | refine fkM ?_ ?_) <;> intro h) | ((first | refine OpsL.same ?_ | refine OpsDL.same ?_); first | refine pK c1 rfl rfl ?_ | refine pK c2 rfl rfl ?_) | refine MvQ.stay ?_)
    · (refine rqK rfl ?_; (repeat' first | exact rfl | (refine qS ?_; constructor)))
    · exact absurd h h0
abbrev frOk (a : Rg) : Prop := (0 ≤ a.1 ∧ a.1 ≤ 9223372036854775807) ∧ 0 ≤ a.2 ∧ a.2 ≤ 9223372036854775807
theorem tdiv_nn {a b M : Int} (h : 0 ≤ a ∧ a ≤ M) (hb : 0 ≤ b) : 0 ≤ a.tdiv b ∧ a.tdiv b ≤ M :=
  ⟨Int.tdiv_nonneg h.1 hb, Int.le_trans (Int.tdiv_le_self _ h.1) h.2⟩
theorem frac_ok {n d : Int} (hn : 0 ≤ n ∧ n ≤ 9223372036854775807) (hd : 0 ≤ d ∧ d ≤ 9223372036854775807) : frOk (frac n d) := by
  have hg : 0 ≤ gcdI n d := Int.natCast_nonneg _
  exact ⟨tdiv_nn hn hg, tdiv_nn hd hg⟩
theorem bend_ok {a b : Rg} (ha : tnOk a) (hb : tnOk b) : frOk (bendF a b) := by
  have h1 := mbd (A := 20000) (B := 20000) (a := b.1) (b := a.2) hb.1 (by omega)
  have h2 := mbd (A := 20000) (B := 20000) (a := a.1) (b := b.2) ha.1 (by omega)
  have h3 := mbd (A := 800000000) (B := 800000000) (a := trnI a b) (b := trnI a b) (by simp only [trnI]; omega) (by simp only [trnI]; omega)
  have h4 := sq_bd ha
  have h5 := sq_bd hb
  have h6 := mbd (A := 800000000) (B := 800000000) (a := sqI a) (b := sqI b) (by omega) (by omega)
  have h7 : 0 < sqI a * sqI b := Int.mul_pos h4.1 h5.1
  have h8 := mul_self_nn (trnI a b)
  exact frac_ok (by omega) (by omega)
theorem bdL_len (T : List Rg) : (bdL T).length = T.length - 1 := accL_len _ _
theorem bdL_ok {T : List Rg} (h : ∀ i, i < T.length → tnOk (T.getD i (0, 0))) {i : Nat} (hi : i < (bdL T).length) : frOk ((bdL T).getD i (0, 0)) := by
  rw [bdL_len] at hi
  rw [bdL, accL_get _ hi]
  exact bend_ok (h _ (by omega)) (h _ (by omega))
theorem tn_ok {L : Ln} (hT : L.Tight) {i : Nat} (hi : i < (accL (tnF L) L.l.length).length) : tnOk ((accL (tnF L) L.l.length).getD i (0, 0)) := by
  rw [accL_len] at hi
  rw [accL_get _ hi]
  have h1 := hT.toOk.bd (i + 1) (by omega)
  have h2 := hT.t i (by omega)
  exact ⟨h1.1, h2, h1.2.2.2⟩
/-- The first of the greatest fractions. -/
def shI (l : List Rg) : Nat → Nat
  | 0 => 0
  | k + 1 => if lessQ (l.getD (shI l k) (0, 0)) (l.getD k (0, 0)) = true then k else shI l k
theorem shI_lt (l : List Rg) (h : 0 < l.length) : ∀ k, k ≤ l.length → shI l k < l.length
  | 0, _ => h
  | k + 1, hk => by
    have := shI_lt l h k (by omega)
    unfold shI
    split <;> omega
def shE (e : Int) (l : List Rg) : Int := if e = 0 then (if l.length = 0 then 12 else 0) else e
theorem tight_of {o : Ln × Int} (ho : o.2 = 0 → o.1.Ok) (h0 : tgE o = 0) : o.1.Tight := by
  unfold tgE at h0
  split at h0
  · rename_i h1; exact ⟨ho h1, slkE_ok h0⟩
  · rename_i h1; exact absurd h0 h1
theorem C59 {x z : Int} {l : List Lk} {c : List Int} : (l.length ≤ 1000000 ∧ c.length ≤ 1000000) → PFD Try.prog 59 [.agg [int x, int z, trs l], .c (ints c)]
    (.tup [vi .i64 (if shE (tgE (opn x z l c)) (bdL (accL (tnF (opn x z l c).1) (opn x z l c).1.l.length)) = 0 then (shI (bdL (accL (tnF (opn x z l c).1) (opn x z l c).1.l.length)) (bdL (accL (tnF (opn x z l c).1) (opn x z l c).1.l.length)).length : Nat) else 0 : Int),
      .agg [int (if shE (tgE (opn x z l c)) (bdL (accL (tnF (opn x z l c).1) (opn x z l c).1.l.length)) = 0 then (bdL (accL (tnF (opn x z l c).1) (opn x z l c).1.l.length)).getD (shI (bdL (accL (tnF (opn x z l c).1) (opn x z l c).1.l.length)) (bdL (accL (tnF (opn x z l c).1) (opn x z l c).1.l.length)).length) (0, 0) else (0, 0)).1,
        int (if shE (tgE (opn x z l c)) (bdL (accL (tnF (opn x z l c).1) (opn x z l c).1.l.length)) = 0 then (bdL (accL (tnF (opn x z l c).1) (opn x z l c).1.l.length)).getD (shI (bdL (accL (tnF (opn x z l c).1) (opn x z l c).1.l.length)) (bdL (accL (tnF (opn x z l c).1) (opn x z l c).1.l.length)).length) (0, 0) else (0, 0)).2],
      vi .i64 (shE (tgE (opn x z l c)) (bdL (accL (tnF (opn x z l c).1) (opn x z l c).1.l.length)))]) := fun hl => by
  have c1 := C58 (x := x) (z := z) hl
  by_cases h0 : tgE (opn x z l c) = 0
  · have hT := tight_of (fun h => (opn_ok h).2) h0
    have hb : ∀ i, i < (bdL (accL (tnF (opn x z l c).1) (opn x z l c).1.l.length)).length → frOk ((bdL (accL (tnF (opn x z l c).1) (opn x z l c).1.l.length)).getD i (0, 0)) := fun i hi => bdL_ok (fun i hi => tn_ok hT hi) hi
    have hn : (bdL (accL (tnF (opn x z l c).1) (opn x z l c).1.l.length)).length ≤ 10 := by
      rw [bdL_len, accL_len]; have := hT.toOk.k.n.2; omega
    rw [h0, orE, if_pos rfl] at c1
    rw [h0]
    generalize bdL (accL (tnF (opn x z l c).1) (opn x z l c).1.l.length) = B at *
    by_cases hB0 : B.length = 0
    · have e : shE 0 B = 12 := by simp only [shE]; rw [if_pos trivial, if_pos hB0]
      have f : fstE [0, unb (decide (0 < (B.length : Int))) 12] = 12 := by simp only [fstE]; rw [if_pos trivial, decide_eq_false (by omega)]; rfl
      rw [e, if_neg (by decide), if_neg (by decide)]
      refine pi3 fn59 ?_
      (repeat' first | (refine Owe.same ?_; first | refine Owe.o ?_ | refine Owe.mk ?_ ?_) | (refine Fork.same ?_; (first | refine fkD ?_ ?_ | refine fkN ?_ ?_ | refine fkM ?_ ?_) <;> intro h) | ((first | refine OpsL.same ?_ | refine OpsDL.same ?_); first | refine pK c1 rfl rfl ?_ | refine pK C91 rfl rfl ?_ | refine pK C90 rfl rfl ?_) | refine MvQ.stay ?_)
      · (refine rqK rfl ?_; (repeat' first | exact rfl | (refine qS ?_; constructor)))
        exact f
      · rw [f] at h; exact absurd h (by decide)
    · have e : shE 0 B = 0 := by simp only [shE]; rw [if_pos trivial, if_neg hB0]
      have f : fstE [0, unb (decide (0 < (B.length : Int))) 12] = 0 := by simp only [fstE]; rw [if_pos trivial, decide_eq_true (by omega)]; rfl
      rw [e, if_pos rfl, if_pos rfl]
      refine pi3 fn59 ?_
      (repeat' first | (refine Owe.same ?_; first | refine Owe.o ?_ | refine Owe.mk ?_ ?_) | (refine Fork.same ?_; (first | refine fkD ?_ ?_ | refine fkN ?_ ?_ | refine fkM ?_ ?_) <;> intro h) | ((first | refine OpsL.same ?_ | refine OpsDL.same ?_); first | refine pK c1 rfl rfl ?_ | refine pK C91 rfl rfl ?_ | refine pK C90 rfl rfl ?_) | refine MvQ.stay ?_)
      · exact absurd f h
      · refine Sat.lp (fun k : Nat => ⟨[(31, vi .i64 k), (30, vi .i64 B.length), (29, .c (prs B)), (9, vi .i64 ((shI B k : Nat) : Int)), (7, .c (prs B)), (5, .c (.bp 1 0))], [(1, .box [int 0, int 0]), (0, .box [int x, int z, trs l])], 2⟩)
          (fun k => k ≤ B.length) (fun k => B.length - k) 0 [0, 1] (Nat.zero_le _) ?_ ?_
        · (refine qis ?_ ?_ <;> (repeat' first | exact rfl | (refine qS ?_; constructor)))
        · intro k hk
          have hs := shI_lt B (by omega) k hk
          have hfs := hb _ hs
          obtain ⟨hf1, hf2⟩ := hfs
          refine Fork.dec (fun hlt => ?_) (fun hlt => ?_)
          · have hlt : k < B.length := by omega
            have hfk := hb _ hlt
            obtain ⟨hf3, hf4⟩ := hfk
            have c2 := C120 (a := B.getD (shI B k) (0, 0)) (b := B.getD k (0, 0)) ⟨hf1, hf2, hf3, hf4⟩
            obtain ⟨q, hq⟩ : ∃ q, q = lessQ (B.getD (shI B k) (0, 0)) (B.getD k (0, 0)) := ⟨_, rfl⟩
            rw [← hq] at c2
            (repeat' first | (refine Owe.same ?_; first | refine Owe.o ?_ | refine Owe.mk ?_ ?_) | (refine Fork.same ?_; (first | refine fkD ?_ ?_ | refine fkN ?_ ?_ | refine fkM ?_ ?_) <;> intro h) | ((first | refine OpsL.same ?_ | refine OpsDL.same ?_); first | refine pK c2 rfl rfl ?_) | refine MvQ.stay ?_)
            · refine again (k + 1) [0, 1] hlt (by omega) ?_
              (refine qis ?_ ?_ <;> (repeat' first | exact rfl | (refine qS ?_; constructor)))
              rw [shI, ← hq, h]; rfl
            · refine again (k + 1) [0, 1] hlt (by omega) ?_
              (refine qis ?_ ?_ <;> (repeat' first | exact rfl | (refine qS ?_; constructor)))
              rw [shI, ← hq, h]; rfl
          · (repeat' first | (refine Owe.same ?_; first | refine Owe.o ?_ | refine Owe.mk ?_ ?_) | (refine Fork.same ?_; (first | refine fkD ?_ ?_ | refine fkN ?_ ?_ | refine fkM ?_ ?_) <;> intro h) | refine MvQ.stay ?_)
            have : k = B.length := by omega
            subst this
            (refine rqK rfl ?_; (repeat' first | exact rfl | (refine qS ?_; constructor)))
  · rw [orE, if_neg h0] at c1
    generalize bdL (accL (tnF (opn x z l c).1) (opn x z l c).1.l.length) = B at *
    rw [show shE (tgE (opn x z l c)) B = tgE (opn x z l c) from if_neg h0, if_neg h0, if_neg h0]
    refine pi3 fn59 ?_
    (repeat' first | (refine Owe.same ?_; first | refine Owe.o ?_ | refine Owe.mk ?_ ?_) | (refine Fork.same ?_; (first | refine fkD ?_ ?_ | refine fkN ?_ ?_ | refine fkM ?_ ?_) <;> intro h) | ((first | refine OpsL.same ?_ | refine OpsDL.same ?_); first | refine pK c1 rfl rfl ?_ | refine pK C91 rfl rfl ?_ | refine pK C90 rfl rfl ?_) | refine MvQ.stay ?_)
    · (refine rqK rfl ?_; (repeat' first | exact rfl | (refine qS ?_; constructor)))
      simp only [fstE]; rw [if_neg h0]
    · exfalso; revert h; simp only [fstE]; rw [if_neg h0]; exact h0
end Go.Pw

set_option linter.unusedSimpArgs false
namespace Go.Pw
set_option maxRecDepth 2000
open Go Go.Proofs A1 A2 A3 A4
abbrev exL : List Lk := [(10, 20, 3), (10, -20, 5), (5, 0, 0)]
abbrev exC : List Int := [4, -2, 7]
abbrev exB : List Rg := [(2, 4), (-2, 0), (0, 9)]
abbrev exP : List Rg := [(0, 0), (4, 0), (4, 4), (0, 4)]
theorem C85 : PFD Try.prog 85 [] (.agg [int 0, int 100, trs exL]) := by
  refine pi1 fn85 ?_
  (repeat' first | (refine Owe.same ?_; first | refine Owe.o ?_ | refine Owe.mk ?_ ?_) | (refine Fork.same ?_; (first | refine fkD ?_ ?_ | refine fkN ?_ ?_ | refine fkM ?_ ?_) <;> intro h) | refine MvQ.stay ?_)
  (refine rqK rfl ?_; (repeat' first | exact rfl | (refine qS ?_; constructor)))
theorem C86 : PFD Try.prog 86 [] (.c (ints exC)) := by
  refine pi1 fn86 ?_
  (repeat' first | (refine Owe.same ?_; first | refine Owe.o ?_ | refine Owe.mk ?_ ?_) | (refine Fork.same ?_; (first | refine fkD ?_ ?_ | refine fkN ?_ ?_ | refine fkM ?_ ?_) <;> intro h) | refine MvQ.stay ?_)
  (refine rqK rfl ?_; (repeat' first | exact rfl | (refine qS ?_; constructor)))
theorem C87 : PFD Try.prog 87 [] (.c (prs exB)) := by
  refine pi1 fn87 ?_
  (repeat' first | (refine Owe.same ?_; first | refine Owe.o ?_ | refine Owe.mk ?_ ?_) | (refine Fork.same ?_; (first | refine fkD ?_ ?_ | refine fkN ?_ ?_ | refine fkM ?_ ?_) <;> intro h) | refine MvQ.stay ?_)
  (refine rqK rfl ?_; (repeat' first | exact rfl | (refine qS ?_; constructor)))
theorem C15 : PFD Try.prog 15 [] (vbl true) := by
  have c1 := C29 (x := 0) (z := 100) (l := exL) (c := exC) (by decide)
  have c2 := C70 (x := 0) (z := 100) (l := exL) (b := exB) (by decide)
  have c3 := C59 (x := 0) (z := 100) (l := exL) (c := exC) (by decide)
  have c4 := C18 (l := exP) (q := (1, 2)) (by decide)
  rw [show orE (opn 0 100 exL exC).2 (accL (tnF (opn 0 100 exL exC).1) (opn 0 100 exL exC).1.l.length) = [(12, 120), (2, 100), (2, 100)] by decide +kernel, show (opn 0 100 exL exC).2 = 0 by decide +kernel] at c1
  rw [show orP (tgE (opb 0 100 exL exB)) (laybk (opb 0 100 exL exB).1) = (-2, 4) by decide +kernel, show tgE (opb 0 100 exL exB) = 0 by decide +kernel] at c2
  have h3 : bdL (accL (tnF (opn 0 100 exL exC).1) (opn 0 100 exL exC).1.l.length) = [(1600, 252601), (0, 1)] := by decide +kernel
  rw [h3, show tgE (opn 0 100 exL exC) = 0 by decide +kernel, show shE 0 [(1600, 252601), (0, 1)] = 0 by decide +kernel, if_pos rfl, if_pos rfl, show shI [(1600, 252601), (0, 1)] ([(1600, 252601), (0, 1)] : List Rg).length = 0 by decide +kernel, show ([(1600, 252601), (0, 1)] : List Rg).getD 0 (0, 0) = (1600, 252601) by decide +kernel] at c3
  rw [show wofE exP (1, 2) = 0 by decide +kernel, show wndI exP (1, 2) = 1 by decide +kernel, if_pos rfl] at c4
  have c5 := C39 (l := [(12, 120), (2, 100), (2, 100)]) (m := [(12, 120), (2, 100), (2, 100)]) (by decide)
  rw [show decide ([(12, 120), (2, 100), (2, 100)] = ([(12, 120), (2, 100), (2, 100)] : List Rg)) = true by decide +kernel] at c5
  refine pi1 fn15 ?_
  (repeat' first | (refine Owe.same ?_; first | refine Owe.o ?_ | refine Owe.mk ?_ ?_) | (refine Fork.same ?_; (first | refine fkD ?_ ?_ | refine fkN ?_ ?_ | refine fkM ?_ ?_) <;> intro h) | ((first | refine OpsL.same ?_ | refine OpsDL.same ?_); first | refine pK C85 rfl rfl ?_ | refine pK C86 rfl rfl ?_ | refine pK C87 rfl rfl ?_ | refine pK c1 rfl rfl ?_ | refine pK c2 rfl rfl ?_ | refine pK c3 rfl rfl ?_ | refine pK c4 rfl rfl ?_ | refine pK c5 rfl rfl ?_) | refine MvQ.stay ?_)
  · (refine rqK rfl ?_; (repeat' first | exact rfl | (refine qS ?_; constructor)))
  all_goals (exfalso; revert h; decide)
end Go.Pw

set_option linter.unusedSimpArgs false
namespace Go.Pw
set_option maxRecDepth 2000
open Go Go.Proofs A1 A2 A3 A4
theorem C28 {x z n : Int} {l : List Lk} : PFD Try.prog 28 [.agg [int x, int z, trs l], vi .i64 n] (vbl (decide (l.length ≤ 12 ∧ n ≤ 14))) := by
  refine pi1 fn28 ?_
  (repeat' first | (refine Owe.same ?_; first | refine Owe.o ?_ | refine Owe.mk ?_ ?_) | (refine Fork.same ?_; (first | refine fkD ?_ ?_ | refine fkN ?_ ?_ | refine fkM ?_ ?_) <;> intro h) | refine MvQ.stay ?_)
  all_goals ((refine rqK rfl ?_; (repeat' first | exact rfl | (refine qS ?_; constructor))); simp only [decide_eq_true_eq, decide_eq_false_iff_not, decide_eq_decide]; omega)
theorem ldE_0 {x z : Int} {l : List Lk} (h1 : (-10000 ≤ x ∧ x ≤ 10000) ∧ -10000 ≤ z ∧ z ≤ 10000) (h2 : 0 < l.length) (h3 : l.length ≤ 10) : ldE x z l = 0 := by
  simp only [ldE, fstE, unl_eq]
  rw [if_pos h1, if_pos rfl, if_pos (show (0 : Int) < l.length by omega), if_pos rfl, if_pos (show (l.length : Int) ≤ 10 by omega), if_pos rfl]
theorem C51 {x z : Int} {l : List Lk} : l.length ≤ 1000000 → PFD Try.prog 51 [.agg [int x, int z, trs l]] (.tup [vi .i64 (lineE x z l).1, vi .i64 (lineE x z l).2]) := fun hl => by
  by_cases h1 : (-10000 ≤ x ∧ x ≤ 10000) ∧ -10000 ≤ z ∧ z ≤ 10000
  · by_cases h2 : l.length = 0
    · have e : lineE x z l = (0, 10) := by
        simp only [lineE, ldE, fstE, unl_eq]
        rw [if_pos h1, if_neg (show ¬ (0 : Int) < l.length by omega)]; rfl
      rw [e]
      refine pi2 fn51 ?_
      (repeat' first | (refine Owe.same ?_; first | refine Owe.o ?_ | refine Owe.mk ?_ ?_) | (refine Fork.same ?_; (first | refine fkD ?_ ?_ | refine fkN ?_ ?_ | refine fkM ?_ ?_) <;> intro h) | ((first | refine OpsL.same ?_ | refine OpsDL.same ?_); first | refine pK C16 rfl rfl ?_) | refine MvQ.stay ?_)
      all_goals first | (exfalso; omega) | (refine rqK rfl ?_; (repeat' first | exact rfl | (refine qS ?_; constructor)))
    · by_cases h3 : l.length ≤ 10
      · have e : lineE x z l = eachE lkErr 0 l := by rw [lineE, if_pos (ldE_0 h1 (by omega) h3)]
        rw [e]
        refine pi2 fn51 ?_
        (repeat' first | (refine Owe.same ?_; first | refine Owe.o ?_ | refine Owe.mk ?_ ?_) | (refine Fork.same ?_; (first | refine fkD ?_ ?_ | refine fkN ?_ ?_ | refine fkM ?_ ?_) <;> intro h) | ((first | refine OpsL.same ?_ | refine OpsDL.same ?_); first | refine pK C16 rfl rfl ?_) | refine MvQ.stay ?_)
        all_goals first | (exfalso; omega) | skip
        refine Sat.lp (fun k : Nat => ⟨[(5, vi .i64 k), (1, .c (.bp 0 0))], [(0, .box [int x, int z, trs l])], 1⟩)
          (fun k => k ≤ l.length ∧ eachE lkErr 0 l = eachE lkErr k (l.drop k)) (fun k => l.length - k) 0 [0] ⟨Nat.zero_le _, rfl⟩ ?_ ?_
        · (refine qis ?_ ?_ <;> (repeat' first | exact rfl | (refine qS ?_; constructor)))
        · intro k hk
          refine Fork.dec (fun hlt => ?_) (fun hlt => ?_)
          · have hlt : k < l.length := by omega
            have e2 := eachE_drop lkErr (0, 0, 0) l k hlt
            by_cases h4 : lkOk (l.getD k (0, 0, 0))
            · rw [if_pos (by simp only [lkErr, unl_eq]; rw [if_pos h4]), ← hk.2] at e2
              obtain ⟨h5, h6, h7⟩ := h4
              (repeat' first | (refine Owe.same ?_; first | refine Owe.o ?_ | refine Owe.mk ?_ ?_) | (refine Fork.same ?_; (first | refine fkD ?_ ?_ | refine fkN ?_ ?_ | refine fkM ?_ ?_) <;> intro h) | ((first | refine OpsL.same ?_ | refine OpsDL.same ?_); first | refine pK C16 rfl rfl ?_) | refine MvQ.stay ?_)
              all_goals first | (exfalso; simp only [Int.toNat_natCast] at *; omega) | skip
              refine again (k + 1) [0] ⟨hlt, e2⟩ (by omega) ?_
              (refine qis ?_ ?_ <;> (repeat' first | exact rfl | (refine qS ?_; constructor)))
            · rw [if_neg (by simp only [lkErr, unl_eq]; rw [if_neg h4]; decide), ← hk.2] at e2
              have e3 : lkErr (l.getD k (0, 0, 0)) = 2 := by simp only [lkErr, unl_eq]; rw [if_neg h4]
              rw [e2, e3]
              simp only [lkOk] at h4
              (repeat' first | (refine Owe.same ?_; first | refine Owe.o ?_ | refine Owe.mk ?_ ?_) | (refine Fork.same ?_; (first | refine fkD ?_ ?_ | refine fkN ?_ ?_ | refine fkM ?_ ?_) <;> intro h) | ((first | refine OpsL.same ?_ | refine OpsDL.same ?_); first | refine pK C16 rfl rfl ?_) | refine MvQ.stay ?_)
              all_goals first | (refine rqK rfl ?_; (repeat' first | exact rfl | (refine qS ?_; constructor))) | (exfalso; simp only [Int.toNat_natCast] at *; omega)
          · (repeat' first | (refine Owe.same ?_; first | refine Owe.o ?_ | refine Owe.mk ?_ ?_) | (refine Fork.same ?_; (first | refine fkD ?_ ?_ | refine fkN ?_ ?_ | refine fkM ?_ ?_) <;> intro h) | refine MvQ.stay ?_)
            rw [hk.2, List.drop_of_length_le (by omega)]
            (refine rqK rfl ?_; (repeat' first | exact rfl | (refine qS ?_; constructor)))
      · have e : lineE x z l = (0, 8) := by
          simp only [lineE, ldE, fstE, unl_eq]
          rw [if_pos h1, if_pos (show (0 : Int) < l.length by omega), if_neg (show ¬ (l.length : Int) ≤ 10 by omega)]; rfl
        rw [e]
        refine pi2 fn51 ?_
        (repeat' first | (refine Owe.same ?_; first | refine Owe.o ?_ | refine Owe.mk ?_ ?_) | (refine Fork.same ?_; (first | refine fkD ?_ ?_ | refine fkN ?_ ?_ | refine fkM ?_ ?_) <;> intro h) | ((first | refine OpsL.same ?_ | refine OpsDL.same ?_); first | refine pK C16 rfl rfl ?_) | refine MvQ.stay ?_)
        all_goals first | (exfalso; omega) | (refine rqK rfl ?_; (repeat' first | exact rfl | (refine qS ?_; constructor)))
  · have e : lineE x z l = (0, 2) := by
      simp only [lineE, ldE, fstE, unl_eq]
      rw [if_neg h1]; rfl
    rw [e]
    refine pi2 fn51 ?_
    (repeat' first | (refine Owe.same ?_; first | refine Owe.o ?_ | refine Owe.mk ?_ ?_) | (refine Fork.same ?_; (first | refine fkD ?_ ?_ | refine fkN ?_ ?_ | refine fkM ?_ ?_) <;> intro h) | ((first | refine OpsL.same ?_ | refine OpsDL.same ?_); first | refine pK C16 rfl rfl ?_) | refine MvQ.stay ?_)
    all_goals first | (exfalso; omega) | (refine rqK rfl ?_; (repeat' first | exact rfl | (refine qS ?_; constructor)))
theorem C35 {x z : Int} {l : List Lk} : l.length ≤ 1000000 → PFD Try.prog 35 [.agg [int x, int z, trs l]] (vi .i64 (lineE x z l).2) := fun hl => by
  have c1 := C51 (x := x) (z := z) hl
  refine pi1 fn35 ?_
  (repeat' first | (refine Owe.same ?_; first | refine Owe.o ?_ | refine Owe.mk ?_ ?_) | (refine Fork.same ?_; (first | refine fkD ?_ ?_ | refine fkN ?_ ?_ | refine fkM ?_ ?_) <;> intro h) | ((first | refine OpsL.same ?_ | refine OpsDL.same ?_); first | refine pK c1 rfl rfl ?_) | refine MvQ.stay ?_)
  (refine rqK rfl ?_; (repeat' first | exact rfl | (refine qS ?_; constructor)))
/-- The error of currents. -/
def curE (n : Nat) (c : List Int) : Int := if c.length = n then (eachE curErr 0 c).2 else 10
theorem C36 {x z : Int} {l : List Lk} {c : List Int} : (l.length ≤ 1000000 ∧ c.length ≤ 1000000) → PFD Try.prog 36 [.agg [int x, int z, trs l], .c (ints c)] (vi .i64 (curE l.length c)) := fun hl => by
  by_cases h1 : c.length = l.length
  · rw [curE, if_pos h1]
    refine pi1 fn36 ?_
    (repeat' first | (refine Owe.same ?_; first | refine Owe.o ?_ | refine Owe.mk ?_ ?_) | (refine Fork.same ?_; (first | refine fkD ?_ ?_ | refine fkN ?_ ?_ | refine fkM ?_ ?_) <;> intro h) | ((first | refine OpsL.same ?_ | refine OpsDL.same ?_); first | refine pK C100 rfl rfl ?_) | refine MvQ.stay ?_)
    · exfalso; omega
    refine Sat.lp (fun k : Nat => ⟨[(5, vi .i64 k), (1, .c (ints c)), (2, .c (.bp 0 0))], [(0, .box [int x, int z, trs l])], 1⟩)
      (fun k => k ≤ c.length ∧ eachE curErr 0 c = eachE curErr k (c.drop k)) (fun k => c.length - k) 0 [0] ⟨Nat.zero_le _, rfl⟩ ?_ ?_
    · (refine qis ?_ ?_ <;> (repeat' first | exact rfl | (refine qS ?_; constructor)))
    · intro k hk
      refine Fork.dec (fun hlt => ?_) (fun hlt => ?_)
      · have hlt : k < c.length := by omega
        have e2 := eachE_drop curErr 0 c k hlt
        by_cases h4 : curOk (c.getD k 0)
        · rw [if_pos (by simp only [curErr, unl_eq]; rw [if_pos h4]), ← hk.2] at e2
          (repeat' first | (refine Owe.same ?_; first | refine Owe.o ?_ | refine Owe.mk ?_ ?_) | (refine Fork.same ?_; (first | refine fkD ?_ ?_ | refine fkN ?_ ?_ | refine fkM ?_ ?_) <;> intro h) | ((first | refine OpsL.same ?_ | refine OpsDL.same ?_); first | refine pK C100 rfl rfl ?_) | refine MvQ.stay ?_)
          all_goals first | (exact absurd h4 h) | skip
          refine again (k + 1) [0] ⟨hlt, e2⟩ (by omega) ?_
          (refine qis ?_ ?_ <;> (repeat' first | exact rfl | (refine qS ?_; constructor)))
        · rw [if_neg (by simp only [curErr, unl_eq]; rw [if_neg h4]; decide), ← hk.2] at e2
          have e3 : curErr (c.getD k 0) = 2 := by simp only [curErr, unl_eq]; rw [if_neg h4]
          rw [e2, e3]
          (repeat' first | (refine Owe.same ?_; first | refine Owe.o ?_ | refine Owe.mk ?_ ?_) | (refine Fork.same ?_; (first | refine fkD ?_ ?_ | refine fkN ?_ ?_ | refine fkM ?_ ?_) <;> intro h) | ((first | refine OpsL.same ?_ | refine OpsDL.same ?_); first | refine pK C100 rfl rfl ?_) | refine MvQ.stay ?_)
          all_goals first | (exact absurd h h4) | (refine rqK rfl ?_; (repeat' first | exact rfl | (refine qS ?_; constructor)))
      · (repeat' first | (refine Owe.same ?_; first | refine Owe.o ?_ | refine Owe.mk ?_ ?_) | (refine Fork.same ?_; (first | refine fkD ?_ ?_ | refine fkN ?_ ?_ | refine fkM ?_ ?_) <;> intro h) | refine MvQ.stay ?_)
        rw [hk.2, List.drop_of_length_le (by omega)]
        (refine rqK rfl ?_; (repeat' first | exact rfl | (refine qS ?_; constructor)))
  · rw [curE, if_neg h1]
    refine pi1 fn36 ?_
    (repeat' first | (refine Owe.same ?_; first | refine Owe.o ?_ | refine Owe.mk ?_ ?_) | (refine Fork.same ?_; (first | refine fkD ?_ ?_ | refine fkN ?_ ?_ | refine fkM ?_ ?_) <;> intro h) | ((first | refine OpsL.same ?_ | refine OpsDL.same ?_); first | refine pK C100 rfl rfl ?_) | refine MvQ.stay ?_)
    all_goals first | (exfalso; omega) | (refine rqK rfl ?_; (repeat' first | exact rfl | (refine qS ?_; constructor)))
theorem opn_err {x z : Int} {l : List Lk} {c : List Int} : (opn x z l c).2 = if (lineE x z l).2 = 0 then curE l.length c else (lineE x z l).2 := by
  simp only [opn, opE, fstE, unl_eq, curE]
  by_cases h1 : (lineE x z l).2 = 0
  · rw [if_pos h1, if_pos h1]
    by_cases h2 : c.length = l.length
    · rw [if_pos (show (c.length : Int) = l.length by omega), if_pos h2, if_pos rfl, if_pos rfl]
    · rw [if_neg (show ¬ (c.length : Int) = l.length by omega), if_neg h2]; rfl
  · rw [if_neg h1, if_neg h1, if_neg h1]
end Go.Pw

set_option linter.unusedSimpArgs false
namespace Go.Pw
set_option maxRecDepth 2000
open Go Go.Proofs A1 A2 A3 A4
theorem PFD.ri' {P : Program} {f : FuncId} {args args' : List V} {v : V} (h : PFD P f args' v) (hr : RIs args args') : PFD P f args v :=
  ⟨h.h.1, h.h.2.1, fun Γ w us h1 h2 h3 => h.h.2.2 Γ w us h1 h2 (hr.rep h3)⟩
abbrev opL (x z : Int) (l : List Lk) (c : List Int) : Ln := ⟨x, z, l, c.map dup⟩
theorem dup_get {c : List Int} {k : Nat} (h : k < c.length) : (c.map dup).getD k (0, 0) = (c.getD k 0, c.getD k 0) := by
  simp [List.getD_eq_getElem?_getD, h]
theorem opL_lo {x z : Int} {l : List Lk} {c : List Int} {k : Nat} (h : k < c.length) : (opL x z l c).lo k = c.getD k 0 := by
  simp only [Ln.lo, dup_get h]
end Go.Pw

set_option linter.unusedSimpArgs false
namespace Go.Pw
set_option maxRecDepth 2000
open Go Go.Proofs A1 A2 A3 A4
end Go.Pw

set_option linter.unusedSimpArgs false
namespace Go.Pw
set_option maxRecDepth 2000
open Go Go.Proofs A1 A2 A3 A4
theorem opL_ph {x z : Int} {l : List Lk} {c : List Int} (h : c.length = l.length) : ∀ k : Nat, k ≤ l.length → (opL x z l c).ph k = (opL x z l c).pl k
  | 0, _ => rfl
  | k + 1, hk => by
    have e : (opL x z l c).hi k = (opL x z l c).lo k := by simp only [Ln.hi, Ln.lo, dup_get (show k < c.length by omega)]
    show (opL x z l c).ph k + (opL x z l c).d k * (opL x z l c).hi k = (opL x z l c).pl k + (opL x z l c).d k * (opL x z l c).lo k
    rw [opL_ph h k (by omega), e]
end Go.Pw

set_option linter.unusedSimpArgs false
set_option linter.unusedVariables false
namespace Go.Pw
set_option maxRecDepth 2000
open Go Go.Proofs A1 A2 A3 A4
end Go.Pw

set_option linter.unusedVariables false
set_option maxHeartbeats 2000000
set_option maxRecDepth 100000
namespace Go.Pw
open Go Go.Proofs
/-- moonpool/moonpoollaw01.CableBalance -/
def lc9 : LCode :=
  (.seq (.region [⟨some 3, .box (.tmp 0), none⟩, ⟨some 5, .box (.tmp 2), none⟩, ⟨some 6, .mv (.const (.bool false)), none⟩]) (.seq (.seq (.region [⟨some 38, .call (.func 15) [],
    none⟩, ⟨some 39, .un .not (.tmp 38), none⟩]) (.cond (.tmp 39) (.seq (.region [⟨some 6, .mv (.const (.bool false)), none⟩]) .ret) .skip)) (.seq (.seq (.region [⟨some 40, .load
    true 3 (.tmp 3), none⟩, ⟨some 41, .mv (.tmp 1), none⟩, ⟨some 42, .len (.tmp 41), none⟩, ⟨some 43, .call (.func 28) [(.tmp 40), (.tmp 42)], none⟩, ⟨some 44, .un .not (.tmp 43),
    none⟩, ⟨some 45, .mv (.tmp 44), none⟩, ⟨some 46, .load true 3 (.tmp 3), some (45, false)⟩, ⟨some 47, .call (.func 35) [(.tmp 46)], some (45, false)⟩, ⟨some 48, .bin .neq (.tmp
    47) (.const (.int .i64 0)), some (45, false)⟩, ⟨some 49, .pick (.tmp 45) (.const (.bool true)) (.tmp 48), none⟩, ⟨some 50, .mv (.tmp 49), none⟩, ⟨some 51, .load true 3 (.tmp 3),
    some (50, false)⟩, ⟨some 52, .mv (.tmp 1), some (50, false)⟩, ⟨some 53, .call (.func 36) [(.tmp 51), (.tmp 52)], some (50, false)⟩, ⟨some 54, .bin .neq (.tmp 53) (.const (.int
    .i64 0)), some (50, false)⟩, ⟨some 55, .pick (.tmp 50) (.const (.bool true)) (.tmp 54), none⟩]) (.cond (.tmp 55) (.seq (.region [⟨some 6, .mv (.const (.bool true)), none⟩])
    .ret) .skip)) (.seq (.region [⟨some 57, .load true 3 (.tmp 3), none⟩, ⟨some 58, .call (.func 30) [(.tmp 57)], none⟩, ⟨some 59, .mv (.tmp 1), none⟩, ⟨some 60, .call (.func 31)
    [(.tmp 59)], none⟩, ⟨some 61, .call (.func 29) [(.tmp 58), (.tmp 60)], none⟩, ⟨some 56, .mv (.tmp 61), none⟩, ⟨some 62, .ext (.tmp 56) 0, none⟩, ⟨some 63, .ext (.tmp 56) 1,
    none⟩, ⟨some 7, .mv (.tmp 62), none⟩, ⟨some 8, .mv (.tmp 63), none⟩]) (.seq (.region [⟨some 65, .load true 3 (.tmp 3), none⟩, ⟨some 66, .call (.func 30) [(.tmp 65)], none⟩,
    ⟨some 67, .mv (.tmp 1), none⟩, ⟨some 68, .call (.func 31) [(.tmp 67)], none⟩, ⟨some 69, .mv (.tmp 7), none⟩, ⟨some 70, .call (.func 33) [(.tmp 69)], none⟩, ⟨some 71, .call
    (.func 32) [(.tmp 66), (.tmp 68), (.tmp 70)], none⟩, ⟨some 64, .mv (.tmp 71), none⟩, ⟨some 72, .ext (.tmp 64) 0, none⟩, ⟨some 73, .ext (.tmp 64) 1, none⟩, ⟨some 9, .mv (.tmp
    72), none⟩, ⟨some 10, .mv (.tmp 73), none⟩]) (.seq (.seq (.region [⟨some 74, .mv (.tmp 8), none⟩, ⟨some 75, .bin .neq (.tmp 74) (.const (.int .i64 0)), none⟩, ⟨some 76, .mv
    (.tmp 75), none⟩, ⟨some 77, .mv (.tmp 10), some (76, false)⟩, ⟨some 78, .bin .neq (.tmp 77) (.const (.int .i64 0)), some (76, false)⟩, ⟨some 79, .pick (.tmp 76) (.const (.bool
    true)) (.tmp 78), none⟩, ⟨some 80, .mv (.tmp 79), none⟩, ⟨some 81, .mv (.tmp 9), some (80, false)⟩, ⟨some 82, .bin .neq (.tmp 81) (.const (.int .i64 0)), some (80, false)⟩,
    ⟨some 83, .pick (.tmp 80) (.const (.bool true)) (.tmp 82), none⟩, ⟨some 84, .mv (.tmp 83), none⟩, ⟨some 85, .mv (.tmp 7), some (84, false)⟩, ⟨some 86, .len (.tmp 85), some (84,
    false)⟩, ⟨some 87, .fld 2 (.tmp 3), some (84, false)⟩, ⟨some 88, .load false 1 (.tmp 87), some (84, false)⟩, ⟨some 89, .len (.tmp 88), some (84, false)⟩, ⟨some 90, .bin .neq
    (.tmp 86) (.tmp 89), some (84, false)⟩, ⟨some 91, .pick (.tmp 84) (.const (.bool true)) (.tmp 90), none⟩]) (.cond (.tmp 91) (.seq (.region [⟨some 6, .mv (.const (.bool false)),
    none⟩]) .ret) .skip)) (.seq (.region [⟨some 92, .fld 0 (.tmp 3), none⟩, ⟨some 93, .load true 2 (.tmp 92), none⟩, ⟨some 11, .alloc [(.int .i64 0), (.int .i64 0)], none⟩, ⟨none,
    .store 2 (.tmp 11) (.tmp 93), none⟩]) (.seq (.seq (.region [⟨some 12, .mv (.const (.int .i64 0)), none⟩]) (.block 0 (.loop (.seq (.seq (.region [⟨some 94, .mv (.tmp 12), none⟩,
    ⟨some 95, .mv (.tmp 7), none⟩, ⟨some 96, .len (.tmp 95), none⟩, ⟨some 97, .bin .lss (.tmp 94) (.tmp 96), none⟩]) (.cond (.tmp 97) .skip (.exit 0))) (.seq (.block 1 (.seq (.seq
    (.regionD [⟨some 100, .mv (.tmp 7), none⟩, ⟨some 101, .mv (.tmp 12), none⟩, ⟨some 102, .idx 2 (.tmp 100) (.tmp 101), none⟩, ⟨some 103, .load true 2 (.tmp 102), none⟩, ⟨some 104,
    .fld 0 (.tmp 11), none⟩, ⟨some 105, .load false 1 (.tmp 104), none⟩, ⟨some 106, .fld 2 (.tmp 3), none⟩, ⟨some 107, .load false 1 (.tmp 106), none⟩, ⟨some 108, .mv (.tmp 12),
    none⟩, ⟨some 109, .idx 3 (.tmp 107) (.tmp 108), none⟩, ⟨some 110, .fld 2 (.tmp 109), none⟩, ⟨some 111, .load false 1 (.tmp 110), none⟩, ⟨some 112, .mv (.tmp 1), none⟩, ⟨some
    113, .mv (.tmp 12), none⟩, ⟨some 114, .idx 1 (.tmp 112) (.tmp 113), none⟩, ⟨some 115, .load false 1 (.tmp 114), none⟩, ⟨some 116, .bin .mul (.tmp 111) (.tmp 115), none⟩, ⟨some
    117, .bin .add (.tmp 105) (.tmp 116), none⟩, ⟨some 118, .fld 1 (.tmp 11), none⟩, ⟨some 119, .load false 1 (.tmp 118), none⟩, ⟨some 120, .fld 2 (.tmp 3), none⟩, ⟨some 121, .load
    false 1 (.tmp 120), none⟩, ⟨some 122, .mv (.tmp 12), none⟩, ⟨some 123, .idx 3 (.tmp 121) (.tmp 122), none⟩, ⟨some 124, .fld 1 (.tmp 123), none⟩, ⟨some 125, .load false 1 (.tmp
    124), none⟩, ⟨some 126, .bin .add (.tmp 119) (.tmp 125), none⟩, ⟨some 127, .build [(.int .i64 0), (.int .i64 0)] [(0, 1, (.tmp 117)), (1, 1, (.tmp 126))], none⟩, ⟨some 128, .eqA
    true 2 (.tmp 103) (.tmp 127), none⟩] [0, 0, 3, 7, 0, 16, 0, 64, 0, 448, 960, 1984, 0, 0, 12288, 28672, 65472, 131056, 0, 262144, 0, 1048576, 0, 7340032, 15728640, 32505856,
    66846720, 134217712, 268435455] [0, 1, 2, 3, 4, 5, 6, 7, 8, 9, 10, 11, 12, 13, 14, 15, 16, 17, 18, 19, 20, 21, 22, 23, 24, 25, 26, 27, 28]) (.cond (.tmp 128) (.seq (.region
    [⟨some 6, .mv (.const (.bool false)), none⟩]) .ret) .skip)) (.region [⟨some 129, .mv (.tmp 7), none⟩, ⟨some 130, .mv (.tmp 12), none⟩, ⟨some 131, .idx 2 (.tmp 129) (.tmp 130),
    none⟩, ⟨some 132, .load true 2 (.tmp 131), none⟩, ⟨none, .store 2 (.tmp 11) (.tmp 132), none⟩]))) (.region [⟨some 98, .mv (.tmp 12), none⟩, ⟨some 99, .bin .add (.tmp 98) (.const
    (.int .i64 1)), none⟩, ⟨some 12, .mv (.tmp 99), none⟩])))))) (.seq (.region [⟨some 133, .idxA 1 2 (.tmp 5) (.const (.int .i64 0)), none⟩, ⟨some 134, .load false 1 (.tmp 133),
    none⟩, ⟨some 135, .mv (.tmp 7), none⟩, ⟨some 136, .len (.tmp 135), none⟩, ⟨some 137, .call (.func 67) [(.tmp 134), (.tmp 136)], none⟩, ⟨some 13, .mv (.tmp 137), none⟩]) (.seq
    (.region [⟨some 138, .mv (.tmp 7), none⟩, ⟨some 139, .call (.func 33) [(.tmp 138)], none⟩, ⟨some 14, .mv (.tmp 139), none⟩]) (.seq (.seq (.region [⟨some 140, .idxA 1 2 (.tmp 5)
    (.const (.int .i64 1)), none⟩, ⟨some 141, .load false 1 (.tmp 140), none⟩, ⟨some 142, .call (.func 67) [(.tmp 141), (.const (.int .i64 2))], none⟩, ⟨some 143, .bin .eql (.tmp
    142) (.const (.int .i64 0)), none⟩]) (.cond (.tmp 143) (.regionD [⟨some 144, .mv (.tmp 14), none⟩, ⟨some 145, .mv (.tmp 13), none⟩, ⟨some 146, .mv (.tmp 14), none⟩, ⟨some 147,
    .mv (.tmp 13), none⟩, ⟨some 148, .idx 2 (.tmp 146) (.tmp 147), none⟩, ⟨some 149, .fld 0 (.tmp 148), none⟩, ⟨some 150, .load false 1 (.tmp 149), none⟩, ⟨some 151, .bin .add (.tmp
    150) (.const (.int .i64 1)), none⟩, ⟨some 152, .idxA 1 2 (.tmp 5) (.const (.int .i64 1)), none⟩, ⟨some 153, .load false 1 (.tmp 152), none⟩, ⟨some 154, .call (.func 67) [(.tmp
    153), (.const (.int .i64 7))], none⟩, ⟨some 155, .bin .add (.tmp 151) (.tmp 154), none⟩, ⟨some 156, .idx 2 (.tmp 144) (.tmp 145), none⟩, ⟨some 157, .fld 0 (.tmp 156), none⟩,
    ⟨none, .store 1 (.tmp 157) (.tmp 155), none⟩] [0, 0, 0, 0, 12, 28, 60, 124, 0, 256, 768, 2044, 4095, 8191, 16383] [0, 1, 2, 3, 4, 5, 6, 7, 8, 9, 10, 11, 12, 13, 14]) (.regionD
    [⟨some 158, .mv (.tmp 14), none⟩, ⟨some 159, .mv (.tmp 13), none⟩, ⟨some 160, .mv (.tmp 14), none⟩, ⟨some 161, .mv (.tmp 13), none⟩, ⟨some 162, .idx 2 (.tmp 160) (.tmp 161),
    none⟩, ⟨some 163, .fld 1 (.tmp 162), none⟩, ⟨some 164, .load false 1 (.tmp 163), none⟩, ⟨some 165, .bin .sub (.tmp 164) (.const (.int .i64 1)), none⟩, ⟨some 166, .idxA 1 2 (.tmp
    5) (.const (.int .i64 1)), none⟩, ⟨some 167, .load false 1 (.tmp 166), none⟩, ⟨some 168, .call (.func 67) [(.tmp 167), (.const (.int .i64 7))], none⟩, ⟨some 169, .bin .sub (.tmp
    165) (.tmp 168), none⟩, ⟨some 170, .idx 2 (.tmp 158) (.tmp 159), none⟩, ⟨some 171, .fld 1 (.tmp 170), none⟩, ⟨none, .store 1 (.tmp 171) (.tmp 169), none⟩] [0, 0, 0, 0, 12, 28,
    60, 124, 0, 256, 768, 2044, 4095, 8191, 16383] [0, 1, 2, 3, 4, 5, 6, 7, 8, 9, 10, 11, 12, 13, 14]))) (.seq (.region [⟨some 173, .load true 3 (.tmp 3), none⟩, ⟨some 174, .call
    (.func 30) [(.tmp 173)], none⟩, ⟨some 175, .mv (.tmp 1), none⟩, ⟨some 176, .call (.func 31) [(.tmp 175)], none⟩, ⟨some 177, .mv (.tmp 14), none⟩, ⟨some 178, .call (.func 32)
    [(.tmp 174), (.tmp 176), (.tmp 177)], none⟩, ⟨some 172, .mv (.tmp 178), none⟩, ⟨some 179, .ext (.tmp 172) 0, none⟩, ⟨some 180, .ext (.tmp 172) 1, none⟩, ⟨some 15, .mv (.tmp
    179), none⟩, ⟨some 16, .mv (.tmp 180), none⟩]) (.seq (.seq (.region [⟨some 181, .mv (.tmp 16), none⟩, ⟨some 182, .bin .neq (.tmp 181) (.const (.int .i64 19)), none⟩, ⟨some 183,
    .mv (.tmp 182), none⟩, ⟨some 184, .mv (.tmp 15), some (183, false)⟩, ⟨some 185, .mv (.tmp 13), some (183, false)⟩, ⟨some 186, .bin .neq (.tmp 184) (.tmp 185), some (183,
    false)⟩, ⟨some 187, .pick (.tmp 183) (.const (.bool true)) (.tmp 186), none⟩]) (.cond (.tmp 187) (.seq (.region [⟨some 6, .mv (.const (.bool false)), none⟩]) .ret) .skip)) (.seq
    (.region [⟨some 188, .load true 3 (.tmp 3), none⟩, ⟨some 189, .call (.func 30) [(.tmp 188)], none⟩, ⟨some 17, .alloc [(.int .i64 0), (.int .i64 0), (.slice none 0 0)], none⟩,
    ⟨none, .store 3 (.tmp 17) (.tmp 189), none⟩]) (.seq (.region [⟨some 190, .fld 2 (.tmp 17), none⟩, ⟨some 191, .load false 1 (.tmp 190), none⟩, ⟨some 192, .mv (.tmp 13), none⟩,
    ⟨some 193, .bin .add (.tmp 192) (.const (.int .i64 1)), none⟩, ⟨some 194, .slc 3 (.tmp 191) none (some (.tmp 193)), none⟩, ⟨some 195, .fld 2 (.tmp 17), none⟩, ⟨none, .store 1
    (.tmp 195) (.tmp 194), none⟩]) (.seq (.regionD [⟨some 197, .load true 3 (.tmp 17), none⟩, ⟨some 198, .mv (.tmp 1), none⟩, ⟨some 199, .mv (.tmp 13), none⟩, ⟨some 200, .bin .add
    (.tmp 199) (.const (.int .i64 1)), none⟩, ⟨some 201, .slc 1 (.tmp 198) none (some (.tmp 200)), none⟩, ⟨some 202, .call (.func 31) [(.tmp 201)], none⟩, ⟨some 203, .call (.func
    29) [(.tmp 197), (.tmp 202)], none⟩, ⟨some 196, .mv (.tmp 203), none⟩, ⟨some 204, .ext (.tmp 196) 0, none⟩, ⟨some 205, .ext (.tmp 196) 1, none⟩, ⟨some 18, .mv (.tmp 204), none⟩,
    ⟨some 19, .mv (.tmp 205), none⟩] [0, 0, 0, 4, 14, 30, 63, 127, 255, 255, 511, 2047] [0, 1, 2, 3, 4, 5, 6, 7, 8, 9, 10, 11]) (.seq (.seq (.region [⟨some 206, .mv (.tmp 19),
    none⟩, ⟨some 207, .bin .neq (.tmp 206) (.const (.int .i64 0)), none⟩, ⟨some 208, .mv (.tmp 207), none⟩, ⟨some 209, .mv (.tmp 18), some (208, false)⟩, ⟨some 210, .mv (.tmp 7),
    some (208, false)⟩, ⟨some 211, .mv (.tmp 13), some (208, false)⟩, ⟨some 212, .bin .add (.tmp 211) (.const (.int .i64 1)), some (208, false)⟩, ⟨some 213, .slc 2 (.tmp 210) none
    (some (.tmp 212)), some (208, false)⟩, ⟨some 214, .call (.func 39) [(.tmp 209), (.tmp 213)], some (208, false)⟩, ⟨some 215, .un .not (.tmp 214), some (208, false)⟩, ⟨some 216,
    .pick (.tmp 208) (.const (.bool true)) (.tmp 215), none⟩]) (.cond (.tmp 216) (.seq (.region [⟨some 6, .mv (.const (.bool false)), none⟩]) .ret) .skip)) (.seq (.region [⟨some
    217, .load true 3 (.tmp 3), none⟩, ⟨some 218, .call (.func 30) [(.tmp 217)], none⟩, ⟨some 20, .alloc [(.int .i64 0), (.int .i64 0), (.slice none 0 0)], none⟩, ⟨none, .store 3
    (.tmp 20) (.tmp 218), none⟩]) (.seq (.region [⟨some 219, .fld 0 (.tmp 20), none⟩, ⟨some 220, .fld 0 (.tmp 219), none⟩, ⟨some 221, .load false 1 (.tmp 220), none⟩, ⟨some 222, .un
    .neg (.tmp 221), none⟩, ⟨some 223, .fld 0 (.tmp 20), none⟩, ⟨some 224, .fld 0 (.tmp 223), none⟩, ⟨none, .store 1 (.tmp 224) (.tmp 222), none⟩]) (.seq (.region [⟨some 21, .mv
    (.const (.slice none 0 0)), none⟩]) (.seq (.seq (.region [⟨some 22, .mv (.const (.int .i64 0)), none⟩]) (.block 2 (.loop (.seq (.seq (.region [⟨some 225, .mv (.tmp 22), none⟩,
    ⟨some 226, .mv (.tmp 1), none⟩, ⟨some 227, .len (.tmp 226), none⟩, ⟨some 228, .bin .lss (.tmp 225) (.tmp 227), none⟩]) (.cond (.tmp 228) .skip (.exit 2))) (.seq (.block 3
    (.region [⟨some 231, .mv (.tmp 21), none⟩, ⟨some 232, .mv (.tmp 1), none⟩, ⟨some 233, .mv (.tmp 22), none⟩, ⟨some 234, .idx 1 (.tmp 232) (.tmp 233), none⟩, ⟨some 235, .load
    false 1 (.tmp 234), none⟩, ⟨some 236, .un .neg (.tmp 235), none⟩, ⟨some 237, .lit false 3 1 [(.tmp 236)], none⟩, ⟨some 238, .append true 3 1 8 (.tmp 231) (.tmp 237), none⟩,
    ⟨some 21, .mv (.tmp 238), none⟩])) (.region [⟨some 229, .mv (.tmp 22), none⟩, ⟨some 230, .bin .add (.tmp 229) (.const (.int .i64 1)), none⟩, ⟨some 22, .mv (.tmp 230),
    none⟩])))))) (.seq (.region [⟨some 240, .load true 3 (.tmp 20), none⟩, ⟨some 241, .call (.func 30) [(.tmp 240)], none⟩, ⟨some 242, .mv (.tmp 21), none⟩, ⟨some 243, .call (.func
    31) [(.tmp 242)], none⟩, ⟨some 244, .call (.func 29) [(.tmp 241), (.tmp 243)], none⟩, ⟨some 239, .mv (.tmp 244), none⟩, ⟨some 245, .ext (.tmp 239) 0, none⟩, ⟨some 246, .ext
    (.tmp 239) 1, none⟩, ⟨some 23, .mv (.tmp 245), none⟩, ⟨some 24, .mv (.tmp 246), none⟩]) (.seq (.seq (.region [⟨some 247, .mv (.tmp 24), none⟩, ⟨some 248, .bin .neq (.tmp 247)
    (.const (.int .i64 0)), none⟩, ⟨some 249, .mv (.tmp 248), none⟩, ⟨some 250, .mv (.tmp 23), some (249, false)⟩, ⟨some 251, .len (.tmp 250), some (249, false)⟩, ⟨some 252, .mv
    (.tmp 7), some (249, false)⟩, ⟨some 253, .len (.tmp 252), some (249, false)⟩, ⟨some 254, .bin .neq (.tmp 251) (.tmp 253), some (249, false)⟩, ⟨some 255, .pick (.tmp 249) (.const
    (.bool true)) (.tmp 254), none⟩]) (.cond (.tmp 255) (.seq (.region [⟨some 6, .mv (.const (.bool false)), none⟩]) .ret) .skip)) (.seq (.seq (.region [⟨some 25, .mv (.const (.int
    .i64 0)), none⟩]) (.block 4 (.loop (.seq (.seq (.region [⟨some 256, .mv (.tmp 25), none⟩, ⟨some 257, .mv (.tmp 7), none⟩, ⟨some 258, .len (.tmp 257), none⟩, ⟨some 259, .bin .lss
    (.tmp 256) (.tmp 258), none⟩]) (.cond (.tmp 259) .skip (.exit 4))) (.seq (.block 5 (.seq (.regionD [⟨some 262, .mv (.tmp 23), none⟩, ⟨some 263, .mv (.tmp 25), none⟩, ⟨some 264,
    .idx 2 (.tmp 262) (.tmp 263), none⟩, ⟨some 265, .load true 2 (.tmp 264), none⟩, ⟨some 266, .mv (.tmp 7), none⟩, ⟨some 267, .mv (.tmp 25), none⟩, ⟨some 268, .idx 2 (.tmp 266)
    (.tmp 267), none⟩, ⟨some 269, .fld 0 (.tmp 268), none⟩, ⟨some 270, .load false 1 (.tmp 269), none⟩, ⟨some 271, .un .neg (.tmp 270), none⟩, ⟨some 272, .mv (.tmp 7), none⟩, ⟨some
    273, .mv (.tmp 25), none⟩, ⟨some 274, .idx 2 (.tmp 272) (.tmp 273), none⟩, ⟨some 275, .fld 1 (.tmp 274), none⟩, ⟨some 276, .load false 1 (.tmp 275), none⟩, ⟨some 277, .build
    [(.int .i64 0), (.int .i64 0)] [(0, 1, (.tmp 271)), (1, 1, (.tmp 276))], none⟩, ⟨some 278, .eqA true 2 (.tmp 265) (.tmp 277), none⟩] [0, 0, 3, 7, 0, 0, 48, 112, 240, 496, 0, 0,
    3072, 7168, 15360, 32752, 65535] [0, 1, 2, 3, 4, 5, 6, 7, 8, 9, 10, 11, 12, 13, 14, 15, 16]) (.cond (.tmp 278) (.seq (.region [⟨some 6, .mv (.const (.bool false)), none⟩]) .ret)
    .skip))) (.region [⟨some 260, .mv (.tmp 25), none⟩, ⟨some 261, .bin .add (.tmp 260) (.const (.int .i64 1)), none⟩, ⟨some 25, .mv (.tmp 261), none⟩])))))) (.seq (.region [⟨some
    280, .load true 3 (.tmp 3), none⟩, ⟨some 281, .call (.func 30) [(.tmp 280)], none⟩, ⟨some 282, .mv (.tmp 1), none⟩, ⟨some 283, .call (.func 31) [(.tmp 282)], none⟩, ⟨some 284,
    .call (.func 56) [(.tmp 281), (.tmp 283)], none⟩, ⟨some 279, .mv (.tmp 284), none⟩, ⟨some 285, .ext (.tmp 279) 0, none⟩, ⟨some 286, .ext (.tmp 279) 1, none⟩, ⟨some 26, .alloc
    [(.int .i64 0), (.int .i64 0)], none⟩, ⟨none, .store 2 (.tmp 26) (.tmp 285), none⟩, ⟨some 27, .mv (.tmp 286), none⟩]) (.seq (.region [⟨some 288, .load true 3 (.tmp 20), none⟩,
    ⟨some 289, .call (.func 30) [(.tmp 288)], none⟩, ⟨some 290, .mv (.tmp 21), none⟩, ⟨some 291, .call (.func 31) [(.tmp 290)], none⟩, ⟨some 292, .call (.func 56) [(.tmp 289), (.tmp
    291)], none⟩, ⟨some 287, .mv (.tmp 292), none⟩, ⟨some 293, .ext (.tmp 287) 0, none⟩, ⟨some 294, .ext (.tmp 287) 1, none⟩, ⟨some 28, .alloc [(.int .i64 0), (.int .i64 0)], none⟩,
    ⟨none, .store 2 (.tmp 28) (.tmp 293), none⟩, ⟨some 29, .mv (.tmp 294), none⟩]) (.seq (.region [⟨some 296, .load true 3 (.tmp 3), none⟩, ⟨some 297, .call (.func 30) [(.tmp 296)],
    none⟩, ⟨some 298, .mv (.tmp 1), none⟩, ⟨some 299, .call (.func 31) [(.tmp 298)], none⟩, ⟨some 300, .call (.func 57) [(.tmp 297), (.tmp 299)], none⟩, ⟨some 295, .mv (.tmp 300),
    none⟩, ⟨some 301, .ext (.tmp 295) 0, none⟩, ⟨some 302, .ext (.tmp 295) 1, none⟩, ⟨some 30, .alloc [(.int .i64 0), (.int .i64 0)], none⟩, ⟨none, .store 2 (.tmp 30) (.tmp 301),
    none⟩, ⟨some 31, .mv (.tmp 302), none⟩]) (.seq (.region [⟨some 304, .load true 3 (.tmp 20), none⟩, ⟨some 305, .call (.func 30) [(.tmp 304)], none⟩, ⟨some 306, .mv (.tmp 21),
    none⟩, ⟨some 307, .call (.func 31) [(.tmp 306)], none⟩, ⟨some 308, .call (.func 57) [(.tmp 305), (.tmp 307)], none⟩, ⟨some 303, .mv (.tmp 308), none⟩, ⟨some 309, .ext (.tmp 303)
    0, none⟩, ⟨some 310, .ext (.tmp 303) 1, none⟩, ⟨some 32, .alloc [(.int .i64 0), (.int .i64 0)], none⟩, ⟨none, .store 2 (.tmp 32) (.tmp 309), none⟩, ⟨some 33, .mv (.tmp 310),
    none⟩]) (.seq (.region [⟨some 312, .load true 3 (.tmp 3), none⟩, ⟨some 313, .call (.func 30) [(.tmp 312)], none⟩, ⟨some 314, .mv (.tmp 1), none⟩, ⟨some 315, .call (.func 31)
    [(.tmp 314)], none⟩, ⟨some 316, .call (.func 58) [(.tmp 313), (.tmp 315)], none⟩, ⟨some 311, .mv (.tmp 316), none⟩, ⟨some 317, .ext (.tmp 311) 0, none⟩, ⟨some 318, .ext (.tmp
    311) 1, none⟩, ⟨some 34, .mv (.tmp 317), none⟩, ⟨some 35, .mv (.tmp 318), none⟩]) (.seq (.region [⟨some 320, .load true 3 (.tmp 20), none⟩, ⟨some 321, .mv (.tmp 21), none⟩,
    ⟨some 322, .call (.func 58) [(.tmp 320), (.tmp 321)], none⟩, ⟨some 319, .mv (.tmp 322), none⟩, ⟨some 323, .ext (.tmp 319) 0, none⟩, ⟨some 324, .ext (.tmp 319) 1, none⟩, ⟨some
    36, .mv (.tmp 323), none⟩, ⟨some 37, .mv (.tmp 324), none⟩]) (.seq (.region [⟨some 325, .mv (.tmp 27), none⟩, ⟨some 326, .mv (.tmp 29), none⟩, ⟨some 327, .bin .eql (.tmp 325)
    (.tmp 326), none⟩, ⟨some 328, .mv (.tmp 327), none⟩, ⟨some 329, .load true 2 (.tmp 26), some (328, true)⟩, ⟨some 330, .fld 1 (.tmp 28), some (328, true)⟩, ⟨some 331, .load false
    1 (.tmp 330), some (328, true)⟩, ⟨some 332, .un .neg (.tmp 331), some (328, true)⟩, ⟨some 333, .fld 0 (.tmp 28), some (328, true)⟩, ⟨some 334, .load false 1 (.tmp 333), some
    (328, true)⟩, ⟨some 335, .un .neg (.tmp 334), some (328, true)⟩, ⟨some 336, .build [(.int .i64 0), (.int .i64 0)] [(0, 1, (.tmp 332)), (1, 1, (.tmp 335))], some (328, true)⟩,
    ⟨some 337, .eqA false 2 (.tmp 329) (.tmp 336), some (328, true)⟩, ⟨some 338, .pick (.tmp 328) (.tmp 337) (.const (.bool false)), none⟩, ⟨some 339, .mv (.tmp 338), none⟩, ⟨some
    340, .mv (.tmp 31), some (339, true)⟩, ⟨some 341, .mv (.tmp 33), some (339, true)⟩, ⟨some 342, .bin .eql (.tmp 340) (.tmp 341), some (339, true)⟩, ⟨some 343, .pick (.tmp 339)
    (.tmp 342) (.const (.bool false)), none⟩, ⟨some 344, .mv (.tmp 343), none⟩, ⟨some 345, .load true 2 (.tmp 30), some (344, true)⟩, ⟨some 346, .load true 2 (.tmp 32), some (344,
    true)⟩, ⟨some 347, .eqA false 2 (.tmp 345) (.tmp 346), some (344, true)⟩, ⟨some 348, .pick (.tmp 344) (.tmp 347) (.const (.bool false)), none⟩, ⟨some 349, .mv (.tmp 348), none⟩,
    ⟨some 350, .mv (.tmp 35), some (349, true)⟩, ⟨some 351, .mv (.tmp 37), some (349, true)⟩, ⟨some 352, .bin .eql (.tmp 350) (.tmp 351), some (349, true)⟩, ⟨some 353, .pick (.tmp
    349) (.tmp 352) (.const (.bool false)), none⟩, ⟨some 354, .mv (.tmp 353), none⟩, ⟨some 355, .mv (.tmp 34), some (354, true)⟩, ⟨some 356, .mv (.tmp 36), some (354, true)⟩, ⟨some
    357, .call (.func 62) [(.tmp 355), (.tmp 356)], some (354, true)⟩, ⟨some 358, .pick (.tmp 354) (.tmp 357) (.const (.bool false)), none⟩, ⟨some 6, .mv (.tmp 358), none⟩])
    .ret)))))))))))))))))))))))))))))))
theorem low9 : lowF Try.prog [238] Try.f9 = some (359, lc9, [.tmp 6]) := by kernel_rfl
theorem fn9 : FnOk Try.prog 9 359 lc9 [.tmp 6] := ⟨Try.call9, [238], _, Try.func9, low9⟩
end Go.Pw

set_option linter.unusedSimpArgs false
namespace Go.Pw
set_option maxRecDepth 2000
open Go Go.Proofs A1 A2 A3 A4
theorem opL_pz {x z : Int} {l : List Lk} {b : List Rg} : ∀ k : Nat, (Ln.mk x z l b).pz k = (stl x z l).pz k
  | 0 => rfl
  | k + 1 => by
    show (Ln.mk x z l b).pz k + _ = (stl x z l).pz k + _
    rw [opL_pz k]; rfl
end Go.Pw

set_option linter.unusedSimpArgs false
set_option linter.unusedVariables false
namespace Go.Pw
set_option maxRecDepth 2000
open Go Go.Proofs A1 A2 A3 A4
theorem Ln.Ok.le {L : Ln} (h : L.Ok) : ∀ k : Nat, k ≤ L.l.length → L.pl k ≤ L.ph k
  | 0, _ => Int.le_refl _
  | k + 1, hk => by
    have := h.le k (by omega)
    have h1 := (h.lk (k := k) (by omega)).2.2
    have h2 := (h.rg (k := k) (by omega)).2.2
    have := Int.mul_le_mul_of_nonneg_left h2 h1.1
    show L.pl k + L.d k * L.lo k ≤ L.ph k + L.d k * L.hi k
    omega
end Go.Pw

set_option linter.unusedVariables false
set_option maxRecDepth 100000
namespace Go.Pw
open Go Go.Proofs
/-- moonpool/cable.CheckBalance$1 -/
def lc98w : LCode :=
  (.seq (.region [⟨some 6, .box (.tmp 1), none⟩, ⟨some 7, .mv (.const (.int .i64 0)), none⟩]) (.seq (.region [⟨some 10, .fld 2 (.tmp 2), none⟩, ⟨some 11, .load false 1 (.tmp 10),
    none⟩, ⟨some 12, .mv (.tmp 0), none⟩, ⟨some 13, .idx 3 (.tmp 11) (.tmp 12), none⟩, ⟨some 14, .load true 3 (.tmp 13), none⟩, ⟨some 8, .alloc [(.int .i64 0), (.int .i64 0), (.int
    .i64 0)], none⟩, ⟨none, .store 3 (.tmp 8) (.tmp 14), none⟩]) (.seq (.region [⟨some 15, .fld 0 (.tmp 6), none⟩, ⟨some 16, .load false 1 (.tmp 15), none⟩, ⟨some 17, .fld 0 (.tmp
    3), none⟩, ⟨some 18, .load false 1 (.tmp 17), none⟩, ⟨some 19, .binW .sub (.tmp 16) (.tmp 18), none⟩, ⟨some 20, .fld 1 (.tmp 6), none⟩, ⟨some 21, .load false 1 (.tmp 20), none⟩,
    ⟨some 22, .fld 1 (.tmp 3), none⟩, ⟨some 23, .load false 1 (.tmp 22), none⟩, ⟨some 24, .binW .sub (.tmp 21) (.tmp 23), none⟩, ⟨some 25, .build [(.int .i64 0), (.int .i64 0)] [(0,
    1, (.tmp 19)), (1, 1, (.tmp 24))], none⟩, ⟨some 9, .alloc [(.int .i64 0), (.int .i64 0)], none⟩, ⟨none, .store 2 (.tmp 9) (.tmp 25), none⟩]) (.seq (.region [⟨some 26, .load true
    2 (.tmp 6), none⟩, ⟨none, .store 2 (.tmp 3) (.tmp 26), none⟩]) (.seq (.regionD [⟨some 27, .load true 2 (.tmp 9), none⟩, ⟨some 28, .fld 2 (.tmp 8), none⟩, ⟨some 29, .load false 1
    (.tmp 28), none⟩, ⟨some 30, .load false 1 (.tmp 4), none⟩, ⟨some 31, .mv (.tmp 0), none⟩, ⟨some 32, .idx 1 (.tmp 30) (.tmp 31), none⟩, ⟨some 33, .load false 1 (.tmp 32), none⟩,
    ⟨some 34, .bin .mul (.tmp 29) (.tmp 33), none⟩, ⟨some 35, .fld 1 (.tmp 8), none⟩, ⟨some 36, .load false 1 (.tmp 35), none⟩, ⟨some 37, .build [(.int .i64 0), (.int .i64 0)] [(0,
    1, (.tmp 34)), (1, 1, (.tmp 36))], none⟩, ⟨some 38, .eqA false 2 (.tmp 27) (.tmp 37), none⟩, ⟨some 39, .call (.func 91) [(.tmp 38), (.const (.int .i64 19))], none⟩, ⟨some 7, .mv
    (.tmp 39), none⟩] [0, 0, 2, 0, 0, 24, 56, 126, 0, 256, 1022, 2047, 4095, 8191] [0, 1, 2, 3, 4, 5, 6, 7, 8, 9, 10, 11, 12, 13]) .ret)))))
theorem low98w : lowF Try.prog [19, 24] Try.f98 = some (40, lc98w, [.tmp 7]) := by kernel_rfl
theorem fn98w : FnOk Try.prog 98 40 lc98w [.tmp 7] := ⟨Try.call98, [19, 24], _, Try.func98, low98w⟩
end Go.Pw
