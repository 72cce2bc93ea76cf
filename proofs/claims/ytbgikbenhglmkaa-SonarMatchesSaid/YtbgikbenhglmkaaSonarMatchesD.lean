/- Steps toward the row of this claim: part 4 of 5. Proved as named below, on no condition but those that each theorem states. -/
import Derived.Test.YtbgikbenhglmkaaSonarMatchesC
import Derived.Test.YtbgikbenhglmkaaProg
set_option linter.unusedVariables false
set_option maxHeartbeats 2000000
set_option maxRecDepth 100000
namespace Go.Pw
open Go Go.Proofs
/-- moonpool/sonar.gridErr -/
def lc101 : LCode :=
  (.seq (.region [⟨some 6, .mv (.const (.int .i64 0)), none⟩]) (.seq (.region [⟨some 7, .mv (.func 122), none⟩]) (.seq (.region [⟨some 8, .mv (.tmp 7), none⟩, ⟨some 9, .mv (.tmp 0),
    none⟩, ⟨some 10, .call (.tmp 8) [(.tmp 9)], none⟩, ⟨some 11, .mv (.tmp 10), none⟩, ⟨some 12, .mv (.tmp 7), some (11, true)⟩, ⟨some 13, .mv (.tmp 1), some (11, true)⟩, ⟨some 14,
    .call (.tmp 12) [(.tmp 13)], some (11, true)⟩, ⟨some 15, .pick (.tmp 11) (.tmp 14) (.const (.bool false)), none⟩, ⟨some 16, .call (.func 49) [(.tmp 15), (.const (.int .i64 2))],
    none⟩, ⟨some 17, .mv (.tmp 2), none⟩, ⟨some 18, .bin .leq (.tmp 17) (.const (.int .i64 10)), none⟩, ⟨some 19, .call (.func 49) [(.tmp 18), (.const (.int .i64 8))], none⟩, ⟨some
    20, .lit false 28 1 [(.tmp 16), (.tmp 19)], none⟩, ⟨some 21, .call (.func 47) [(.tmp 20)], none⟩, ⟨some 6, .mv (.tmp 21), none⟩]) .ret)))
theorem low101 : lowF Try.prog [] Try.f101 = some (22, lc101.strip, [.tmp 6]) := by kernel_rfl
theorem fn101 : FnOk Try.prog 101 22 lc101 [.tmp 6] := ⟨Try.call101, [], _, Try.func101, low101⟩
/-- moonpool/sonar.each[moonpool/api.SonarView] -/
def lc102 : LCode :=
  (.seq (.region [⟨some 4, .mv (.const (.int .i64 0)), none⟩, ⟨some 5, .mv (.const (.int .i64 0)), none⟩]) (.seq (.seq (.region [⟨some 9, .mv (.tmp 0), none⟩, ⟨some 10, .len (.tmp
    9), none⟩, ⟨some 11, .mv (.const (.int .i64 0)), none⟩]) (.block 0 (.loop (.seq (.region [⟨some 12, .bin .lss (.tmp 11) (.tmp 10), none⟩]) (.seq (.cond (.tmp 12) .skip (.exit
    0)) (.seq (.block 1 (.seq (.region [⟨some 13, .mv (.tmp 11), none⟩, ⟨some 14, .idx 6 (.tmp 9) (.tmp 11), none⟩, ⟨some 15, .load true 6 (.tmp 14), none⟩, ⟨some 7, .alloc [(.int
    .i64 0), (.int .i64 0), (.int .i64 0), (.int .i64 0), (.bool false), (.int .i64 0)], none⟩, ⟨some 6, .mv (.tmp 13), none⟩, ⟨none, .store 6 (.tmp 7) (.tmp 15), none⟩]) (.seq
    (.region [⟨some 16, .mv (.tmp 1), none⟩, ⟨some 17, .mv (.tmp 6), none⟩, ⟨some 18, .load true 6 (.tmp 7), none⟩, ⟨some 19, .call (.tmp 16) [(.tmp 17), (.tmp 18)], none⟩, ⟨some 8,
    .mv (.tmp 19), none⟩]) (.seq (.region [⟨some 20, .mv (.tmp 8), none⟩, ⟨some 21, .bin .neq (.tmp 20) (.const (.int .i64 0)), none⟩]) (.cond (.tmp 21) (.seq (.region [⟨some 22,
    .mv (.tmp 6), none⟩, ⟨some 23, .mv (.tmp 8), none⟩, ⟨some 4, .mv (.tmp 22), none⟩, ⟨some 5, .mv (.tmp 23), none⟩]) .ret) .skip))))) (.region [⟨some 24, .bin .add (.tmp 11)
    (.const (.int .i64 1)), none⟩, ⟨some 11, .mv (.tmp 24), none⟩]))))))) (.seq (.region [⟨some 4, .mv (.const (.int .i64 0)), none⟩, ⟨some 5, .mv (.const (.int .i64 0)), none⟩])
    .ret)))
theorem low102 : lowF Try.prog [] Try.f102 = some (25, lc102.strip, [.tmp 4, .tmp 5]) := by kernel_rfl
theorem fn102 : FnOk Try.prog 102 25 lc102 [.tmp 4, .tmp 5] := ⟨Try.call102, [], _, Try.func102, low102⟩
/-- moonpool/sonar.CheckSearch$1 -/
def lc103 : LCode :=
  (.seq (.region [⟨some 4, .boxS (.tmp 1), none⟩, ⟨some 5, .mv (.const (.int .i64 0)), none⟩]) (.seq (.regionD [⟨some 6, .fld 0 (.tmp 4), none⟩, ⟨some 7, .load true 5 (.tmp 6),
    none⟩, ⟨some 8, .fld 0 (.tmp 2), none⟩, ⟨some 9, .load false 1 (.tmp 8), none⟩, ⟨some 10, .fld 1 (.tmp 2), none⟩, ⟨some 11, .load false 1 (.tmp 10), none⟩, ⟨some 12, .call
    (.func 43) [(.tmp 7), (.tmp 9), (.tmp 11)], none⟩, ⟨some 13, .fld 5 (.tmp 4), none⟩, ⟨some 14, .load false 1 (.tmp 13), none⟩, ⟨some 15, .call (.func 50) [(.tmp 14), (.const
    (.int .i64 0)), (.const (.int .i64 1000))], none⟩, ⟨some 16, .call (.func 49) [(.tmp 15), (.const (.int .i64 2))], none⟩, ⟨some 17, .lit false 28 1 [(.tmp 12), (.tmp 16)],
    none⟩, ⟨some 18, .call (.func 47) [(.tmp 17)], none⟩, ⟨some 5, .mv (.tmp 18), none⟩] [0, 1, 0, 4, 0, 16, 63, 0, 128, 511, 1023, 2047, 4095, 8191] [0, 1, 2, 3, 4, 5, 6, 7, 8, 9,
    10, 11, 12, 13]) .ret))
theorem low103 : lowF Try.prog [4] Try.f103 = some (19, lc103.strip, [.tmp 5]) := by kernel_rfl
theorem fn103 : FnOk Try.prog 103 19 lc103 [.tmp 5] := ⟨Try.call103, [4], _, Try.func103, low103⟩
/-- moonpool/sonar.each[int] -/
def lc104 : LCode :=
  (.seq (.region [⟨some 4, .mv (.const (.int .i64 0)), none⟩, ⟨some 5, .mv (.const (.int .i64 0)), none⟩]) (.seq (.seq (.region [⟨some 9, .mv (.tmp 0), none⟩, ⟨some 10, .len (.tmp
    9), none⟩, ⟨some 11, .mv (.const (.int .i64 0)), none⟩]) (.block 0 (.loop (.seq (.region [⟨some 12, .bin .lss (.tmp 11) (.tmp 10), none⟩]) (.seq (.cond (.tmp 12) .skip (.exit
    0)) (.seq (.block 1 (.seq (.region [⟨some 13, .mv (.tmp 11), none⟩, ⟨some 14, .idx 1 (.tmp 9) (.tmp 11), none⟩, ⟨some 15, .load false 1 (.tmp 14), none⟩, ⟨some 6, .mv (.tmp 13),
    none⟩, ⟨some 7, .mv (.tmp 15), none⟩]) (.seq (.region [⟨some 16, .mv (.tmp 1), none⟩, ⟨some 17, .mv (.tmp 6), none⟩, ⟨some 18, .mv (.tmp 7), none⟩, ⟨some 19, .call (.tmp 16)
    [(.tmp 17), (.tmp 18)], none⟩, ⟨some 8, .mv (.tmp 19), none⟩]) (.seq (.region [⟨some 20, .mv (.tmp 8), none⟩, ⟨some 21, .bin .neq (.tmp 20) (.const (.int .i64 0)), none⟩])
    (.cond (.tmp 21) (.seq (.region [⟨some 22, .mv (.tmp 6), none⟩, ⟨some 23, .mv (.tmp 8), none⟩, ⟨some 4, .mv (.tmp 22), none⟩, ⟨some 5, .mv (.tmp 23), none⟩]) .ret) .skip)))))
    (.region [⟨some 24, .bin .add (.tmp 11) (.const (.int .i64 1)), none⟩, ⟨some 11, .mv (.tmp 24), none⟩]))))))) (.seq (.region [⟨some 4, .mv (.const (.int .i64 0)), none⟩, ⟨some
    5, .mv (.const (.int .i64 0)), none⟩]) .ret)))
theorem low104 : lowF Try.prog [] Try.f104 = some (25, lc104.strip, [.tmp 4, .tmp 5]) := by kernel_rfl
theorem fn104 : FnOk Try.prog 104 25 lc104 [.tmp 4, .tmp 5] := ⟨Try.call104, [], _, Try.func104, low104⟩
/-- moonpool/sonar.CheckSearch$2 -/
def lc105 : LCode :=
  (.seq (.region [⟨some 6, .mv (.const (.int .i64 0)), none⟩]) (.seq (.regionD [⟨some 8, .mv (.tmp 1), none⟩, ⟨some 9, .fld 0 (.tmp 2), none⟩, ⟨some 10, .load false 1 (.tmp 9),
    none⟩, ⟨some 11, .fld 1 (.tmp 2), none⟩, ⟨some 12, .load false 1 (.tmp 11), none⟩, ⟨some 13, .bin .mul (.tmp 10) (.tmp 12), none⟩, ⟨some 14, .bin .sub (.tmp 13) (.const (.int
    .i64 1)), none⟩, ⟨some 15, .call (.func 50) [(.tmp 8), (.const (.int .i64 0)), (.tmp 14)], none⟩, ⟨some 16, .call (.func 49) [(.tmp 15), (.const (.int .i64 6))], none⟩, ⟨some
    17, .mv (.tmp 1), none⟩, ⟨some 18, .load false 1 (.tmp 3), none⟩, ⟨some 19, .bin .gtr (.tmp 17) (.tmp 18), none⟩, ⟨some 20, .call (.func 49) [(.tmp 19), (.const (.int .i64 9))],
    none⟩, ⟨some 21, .lit false 28 1 [(.tmp 16), (.tmp 20)], none⟩, ⟨some 22, .call (.func 47) [(.tmp 21)], none⟩, ⟨some 7, .mv (.tmp 22), none⟩] [0, 0, 2, 0, 8, 30, 62, 127, 255,
    0, 0, 1536, 4095, 8191, 16383, 32767] [0, 1, 2, 3, 4, 5, 6, 7, 8, 9, 10, 11, 12, 13, 14, 15]) (.seq (.region [⟨some 23, .mv (.tmp 1), none⟩, ⟨none, .store 1 (.tmp 3) (.tmp 23),
    none⟩]) (.seq (.region [⟨some 24, .mv (.tmp 7), none⟩, ⟨some 6, .mv (.tmp 24), none⟩]) .ret))))
theorem low105 : lowF Try.prog [] Try.f105 = some (25, lc105.strip, [.tmp 6]) := by kernel_rfl
theorem fn105 : FnOk Try.prog 105 25 lc105 [.tmp 6] := ⟨Try.call105, [], _, Try.func105, low105⟩
/-- slices.BinarySearch[[]int,int] -/
def lc106 : LCode :=
  (.seq (.region [⟨some 4, .mv (.const (.int .i64 0)), none⟩, ⟨some 5, .mv (.const (.bool false)), none⟩]) (.seq (.region [⟨some 10, .mv (.tmp 0), none⟩, ⟨some 11, .len (.tmp 10),
    none⟩, ⟨some 6, .mv (.tmp 11), none⟩]) (.seq (.region [⟨some 12, .mv (.tmp 6), none⟩, ⟨some 7, .mv (.const (.int .i64 0)), none⟩, ⟨some 8, .mv (.tmp 12), none⟩]) (.seq (.block 0
    (.loop (.seq (.seq (.region [⟨some 13, .mv (.tmp 7), none⟩, ⟨some 14, .mv (.tmp 8), none⟩, ⟨some 15, .bin .lss (.tmp 13) (.tmp 14), none⟩]) (.cond (.tmp 15) .skip (.exit 0)))
    (.block 1 (.seq (.region [⟨some 16, .mv (.tmp 7), none⟩, ⟨some 17, .mv (.tmp 8), none⟩, ⟨some 18, .bin .add (.tmp 16) (.tmp 17), none⟩, ⟨some 19, .conv .u64 (.tmp 18), none⟩,
    ⟨some 20, .bin .shr (.tmp 19) (.const (.int .u64 1)), none⟩, ⟨some 21, .conv .i64 (.tmp 20), none⟩, ⟨some 9, .mv (.tmp 21), none⟩]) (.seq (.region [⟨some 22, .mv (.tmp 0),
    none⟩, ⟨some 23, .mv (.tmp 9), none⟩, ⟨some 24, .idx 1 (.tmp 22) (.tmp 23), none⟩, ⟨some 25, .load false 1 (.tmp 24), none⟩, ⟨some 26, .mv (.tmp 1), none⟩, ⟨some 27, .call
    (.func 123) [(.tmp 25), (.tmp 26)], none⟩]) (.cond (.tmp 27) (.region [⟨some 28, .mv (.tmp 9), none⟩, ⟨some 29, .bin .add (.tmp 28) (.const (.int .i64 1)), none⟩, ⟨some 7, .mv
    (.tmp 29), none⟩]) (.region [⟨some 30, .mv (.tmp 9), none⟩, ⟨some 8, .mv (.tmp 30), none⟩])))))))) (.seq (.region [⟨some 31, .mv (.tmp 7), none⟩, ⟨some 32, .mv (.tmp 7), none⟩,
    ⟨some 33, .mv (.tmp 6), none⟩, ⟨some 34, .bin .lss (.tmp 32) (.tmp 33), none⟩, ⟨some 35, .mv (.tmp 34), none⟩, ⟨some 36, .mv (.tmp 0), some (35, true)⟩, ⟨some 37, .mv (.tmp 7),
    some (35, true)⟩, ⟨some 38, .idx 1 (.tmp 36) (.tmp 37), some (35, true)⟩, ⟨some 39, .load false 1 (.tmp 38), some (35, true)⟩, ⟨some 40, .mv (.tmp 1), some (35, true)⟩, ⟨some
    41, .bin .eql (.tmp 39) (.tmp 40), some (35, true)⟩, ⟨some 42, .mv (.tmp 41), some (35, true)⟩, ⟨some 43, .mv (.tmp 0), some (42, false)⟩, ⟨some 44, .mv (.tmp 7), some (42,
    false)⟩, ⟨some 45, .idx 1 (.tmp 43) (.tmp 44), some (42, false)⟩, ⟨some 46, .load false 1 (.tmp 45), some (42, false)⟩, ⟨some 47, .call (.func 124) [(.tmp 46)], some (42,
    false)⟩, ⟨some 48, .mv (.tmp 47), some (42, false)⟩, ⟨some 49, .mv (.tmp 1), some (48, true)⟩, ⟨some 50, .call (.func 124) [(.tmp 49)], some (48, true)⟩, ⟨some 51, .pick (.tmp
    48) (.tmp 50) (.const (.bool false)), some (42, false)⟩, ⟨some 52, .pick (.tmp 42) (.const (.bool true)) (.tmp 51), some (35, true)⟩, ⟨some 53, .pick (.tmp 35) (.tmp 52) (.const
    (.bool false)), none⟩, ⟨some 4, .mv (.tmp 31), none⟩, ⟨some 5, .mv (.tmp 53), none⟩]) .ret)))))
theorem low106 : lowF Try.prog [] Try.f106 = some (54, lc106.strip, [.tmp 4, .tmp 5]) := by kernel_rfl
theorem fn106 : FnOk Try.prog 106 54 lc106 [.tmp 4, .tmp 5] := ⟨Try.call106, [], _, Try.func106, low106⟩
/-- moonpool/sonar.cell -/
def lc107 : LCode :=
  (.seq (.region [⟨some 2, .boxS (.tmp 0), none⟩, ⟨some 4, .mv (.const (.int .i64 0)), none⟩]) (.seq (.region [⟨some 5, .fld 1 (.tmp 2), none⟩, ⟨some 6, .load false 1 (.tmp 5),
    none⟩, ⟨some 7, .mv (.tmp 1), none⟩, ⟨some 8, .bin .mul (.tmp 6) (.tmp 7), none⟩, ⟨some 9, .fld 0 (.tmp 2), none⟩, ⟨some 10, .load false 1 (.tmp 9), none⟩, ⟨some 11, .bin .add
    (.tmp 8) (.tmp 10), none⟩, ⟨some 4, .mv (.tmp 11), none⟩]) .ret))
theorem low107 : lowF Try.prog [2] Try.f107 = some (12, lc107.strip, [.tmp 4]) := by kernel_rfl
theorem fn107 : FnOk Try.prog 107 12 lc107 [.tmp 4] := ⟨Try.call107, [2], _, Try.func107, low107⟩
/-- slices.ContainsFunc[[]moonpool/api.Gauss,moonpool/api.Gauss] -/
def lc108 : LCode :=
  (.seq (.region [⟨some 4, .mv (.const (.bool false)), none⟩]) (.seq (.region [⟨some 5, .mv (.tmp 0), none⟩, ⟨some 6, .mv (.tmp 1), none⟩, ⟨some 7, .call (.func 125) [(.tmp 5),
    (.tmp 6)], none⟩, ⟨some 8, .bin .geq (.tmp 7) (.const (.int .i64 0)), none⟩, ⟨some 4, .mv (.tmp 8), none⟩]) .ret))
theorem low108 : lowF Try.prog [] Try.f108 = some (9, lc108.strip, [.tmp 4]) := by kernel_rfl
theorem fn108 : FnOk Try.prog 108 9 lc108 [.tmp 4] := ⟨Try.call108, [], _, Try.func108, low108⟩
/-- moonpool/sonar.samplesErr$1 -/
def lc109 : LCode :=
  (.seq (.region [⟨some 1, .boxS (.tmp 0), none⟩, ⟨some 2, .mv (.const (.bool false)), none⟩]) (.seq (.region [⟨some 3, .fld 0 (.tmp 1), none⟩, ⟨some 4, .load false 1 (.tmp 3),
    none⟩, ⟨some 5, .call (.func 50) [(.tmp 4), (.const (.int .i64 (-1000))), (.const (.int .i64 1000))], none⟩, ⟨some 6, .un .not (.tmp 5), none⟩, ⟨some 7, .mv (.tmp 6), none⟩,
    ⟨some 8, .fld 1 (.tmp 1), some (7, false)⟩, ⟨some 9, .load false 1 (.tmp 8), some (7, false)⟩, ⟨some 10, .call (.func 50) [(.tmp 9), (.const (.int .i64 (-1000))), (.const (.int
    .i64 1000))], some (7, false)⟩, ⟨some 11, .un .not (.tmp 10), some (7, false)⟩, ⟨some 12, .pick (.tmp 7) (.const (.bool true)) (.tmp 11), none⟩, ⟨some 2, .mv (.tmp 12), none⟩])
    .ret))
theorem low109 : lowF Try.prog [1] Try.f109 = some (13, lc109.strip, [.tmp 2]) := by kernel_rfl
theorem fn109 : FnOk Try.prog 109 13 lc109 [.tmp 2] := ⟨Try.call109, [1], _, Try.func109, low109⟩
/-- moonpool/sonar.counted -/
def lc110 : LCode :=
  (.seq (.region [⟨some 4, .mv (.const (.int .i64 0)), none⟩]) (.seq (.region [⟨some 5, .mv (.tmp 0), none⟩, ⟨some 6, .bin .gtr (.tmp 5) (.const (.int .i64 0)), none⟩, ⟨some 7,
    .call (.func 49) [(.tmp 6), (.const (.int .i64 10))], none⟩, ⟨some 8, .mv (.tmp 0), none⟩, ⟨some 9, .mv (.tmp 1), none⟩, ⟨some 10, .bin .leq (.tmp 8) (.tmp 9), none⟩, ⟨some 11,
    .call (.func 49) [(.tmp 10), (.const (.int .i64 8))], none⟩, ⟨some 12, .lit false 28 1 [(.tmp 7), (.tmp 11)], none⟩, ⟨some 13, .call (.func 47) [(.tmp 12)], none⟩, ⟨some 4, .mv
    (.tmp 13), none⟩]) .ret))
theorem low110 : lowF Try.prog [] Try.f110 = some (14, lc110.strip, [.tmp 4]) := by kernel_rfl
theorem fn110 : FnOk Try.prog 110 14 lc110 [.tmp 4] := ⟨Try.call110, [], _, Try.func110, low110⟩
/-- moonpool/sonar.CheckLayers$1 -/
def lc111 : LCode :=
  (.seq (.region [⟨some 2, .mv (.const (.bool false)), none⟩]) (.seq (.region [⟨some 3, .mv (.tmp 0), none⟩, ⟨some 4, .call (.func 50) [(.tmp 3), (.const (.int .i64 1)), (.const
    (.int .i64 100))], none⟩, ⟨some 2, .mv (.tmp 4), none⟩]) .ret))
theorem low111 : lowF Try.prog [] Try.f111 = some (5, lc111.strip, [.tmp 2]) := by kernel_rfl
theorem fn111 : FnOk Try.prog 111 5 lc111 [.tmp 2] := ⟨Try.call111, [], _, Try.func111, low111⟩
/-- moonpool/sonar.each[moonpool/api.SonarLayer] -/
def lc112 : LCode :=
  (.seq (.region [⟨some 4, .mv (.const (.int .i64 0)), none⟩, ⟨some 5, .mv (.const (.int .i64 0)), none⟩]) (.seq (.seq (.region [⟨some 9, .mv (.tmp 0), none⟩, ⟨some 10, .len (.tmp
    9), none⟩, ⟨some 11, .mv (.const (.int .i64 0)), none⟩]) (.block 0 (.loop (.seq (.region [⟨some 12, .bin .lss (.tmp 11) (.tmp 10), none⟩]) (.seq (.cond (.tmp 12) .skip (.exit
    0)) (.seq (.block 1 (.seq (.region [⟨some 13, .mv (.tmp 11), none⟩, ⟨some 14, .idx 3 (.tmp 9) (.tmp 11), none⟩, ⟨some 15, .load true 3 (.tmp 14), none⟩, ⟨some 7, .alloc [(.int
    .i64 0), (.int .i64 0), (.int .i64 0)], none⟩, ⟨some 6, .mv (.tmp 13), none⟩, ⟨none, .store 3 (.tmp 7) (.tmp 15), none⟩]) (.seq (.region [⟨some 16, .mv (.tmp 1), none⟩, ⟨some
    17, .mv (.tmp 6), none⟩, ⟨some 18, .load true 3 (.tmp 7), none⟩, ⟨some 19, .call (.tmp 16) [(.tmp 17), (.tmp 18)], none⟩, ⟨some 8, .mv (.tmp 19), none⟩]) (.seq (.region [⟨some
    20, .mv (.tmp 8), none⟩, ⟨some 21, .bin .neq (.tmp 20) (.const (.int .i64 0)), none⟩]) (.cond (.tmp 21) (.seq (.region [⟨some 22, .mv (.tmp 6), none⟩, ⟨some 23, .mv (.tmp 8),
    none⟩, ⟨some 4, .mv (.tmp 22), none⟩, ⟨some 5, .mv (.tmp 23), none⟩]) .ret) .skip))))) (.region [⟨some 24, .bin .add (.tmp 11) (.const (.int .i64 1)), none⟩, ⟨some 11, .mv (.tmp
    24), none⟩]))))))) (.seq (.region [⟨some 4, .mv (.const (.int .i64 0)), none⟩, ⟨some 5, .mv (.const (.int .i64 0)), none⟩]) .ret)))
theorem low112 : lowF Try.prog [] Try.f112 = some (25, lc112.strip, [.tmp 4, .tmp 5]) := by kernel_rfl
theorem fn112 : FnOk Try.prog 112 25 lc112 [.tmp 4, .tmp 5] := ⟨Try.call112, [], _, Try.func112, low112⟩
/-- moonpool/sonar.CheckLayers$2 -/
def lc113 : LCode :=
  (.seq (.region [⟨some 4, .boxS (.tmp 1), none⟩, ⟨some 5, .mv (.const (.int .i64 0)), none⟩]) (.seq (.region [⟨some 7, .fld 0 (.tmp 4), none⟩, ⟨some 8, .load false 1 (.tmp 7),
    none⟩, ⟨some 9, .call (.func 50) [(.tmp 8), (.const (.int .i64 1)), (.const (.int .i64 10000))], none⟩, ⟨some 10, .mv (.tmp 9), none⟩, ⟨some 11, .load false 1 (.tmp 2), some
    (10, true)⟩, ⟨some 12, .fld 1 (.tmp 4), some (10, true)⟩, ⟨some 13, .fld 0 (.tmp 12), some (10, true)⟩, ⟨some 14, .load false 1 (.tmp 13), some (10, true)⟩, ⟨some 15, .call
    (.tmp 11) [(.tmp 14)], some (10, true)⟩, ⟨some 16, .pick (.tmp 10) (.tmp 15) (.const (.bool false)), none⟩, ⟨some 17, .mv (.tmp 16), none⟩, ⟨some 18, .load false 1 (.tmp 2),
    some (17, true)⟩, ⟨some 19, .fld 1 (.tmp 4), some (17, true)⟩, ⟨some 20, .fld 1 (.tmp 19), some (17, true)⟩, ⟨some 21, .load false 1 (.tmp 20), some (17, true)⟩, ⟨some 22, .call
    (.tmp 18) [(.tmp 21)], some (17, true)⟩, ⟨some 23, .pick (.tmp 17) (.tmp 22) (.const (.bool false)), none⟩, ⟨some 6, .mv (.tmp 23), none⟩]) (.seq (.regionD [⟨some 24, .mv (.tmp
    6), none⟩, ⟨some 25, .call (.func 49) [(.tmp 24), (.const (.int .i64 2))], none⟩, ⟨some 26, .fld 1 (.tmp 4), none⟩, ⟨some 27, .fld 0 (.tmp 26), none⟩, ⟨some 28, .load false 1
    (.tmp 27), none⟩, ⟨some 29, .fld 1 (.tmp 4), none⟩, ⟨some 30, .fld 1 (.tmp 29), none⟩, ⟨some 31, .load false 1 (.tmp 30), none⟩, ⟨some 32, .bin .leq (.tmp 28) (.tmp 31), none⟩,
    ⟨some 33, .call (.func 49) [(.tmp 32), (.const (.int .i64 9))], none⟩, ⟨some 34, .lit false 28 1 [(.tmp 25), (.tmp 33)], none⟩, ⟨some 35, .call (.func 47) [(.tmp 34)], none⟩,
    ⟨some 5, .mv (.tmp 35), none⟩] [0, 1, 0, 4, 12, 0, 32, 96, 252, 511, 1023, 2047, 4095] [0, 1, 2, 3, 4, 5, 6, 7, 8, 9, 10, 11, 12]) .ret)))
theorem low113 : lowF Try.prog [4] Try.f113 = some (36, lc113.strip, [.tmp 5]) := by kernel_rfl
theorem fn113 : FnOk Try.prog 113 36 lc113 [.tmp 5] := ⟨Try.call113, [4], _, Try.func113, low113⟩
/-- moonpool/sonar.divisor -/
def lc114 : LCode :=
  (.seq (.region [⟨some 4, .mv (.const (.int .i64 0)), none⟩]) (.seq (.block 0 (.loop (.seq (.seq (.region [⟨some 5, .mv (.tmp 1), none⟩, ⟨some 6, .bin .neq (.tmp 5) (.const (.int
    .i64 0)), none⟩]) (.cond (.tmp 6) .skip (.exit 0))) (.block 1 (.regionD [⟨some 7, .mv (.tmp 1), none⟩, ⟨some 8, .mv (.tmp 0), none⟩, ⟨some 9, .mv (.tmp 1), none⟩, ⟨some 10, .bin
    .rem (.tmp 8) (.tmp 9), none⟩, ⟨some 0, .mv (.tmp 7), none⟩, ⟨some 1, .mv (.tmp 10), none⟩] [0, 0, 0, 6, 3, 31] [0, 1, 2, 3, 4, 5]))))) (.seq (.region [⟨some 11, .mv (.tmp 0),
    none⟩, ⟨some 4, .mv (.tmp 11), none⟩]) .ret)))
theorem low114 : lowF Try.prog [] Try.f114 = some (12, lc114.strip, [.tmp 4]) := by kernel_rfl
theorem fn114 : FnOk Try.prog 114 12 lc114 [.tmp 4] := ⟨Try.call114, [], _, Try.func114, low114⟩
/-- moonpool/sonar.each[moonpool/api.SonarRay] -/
def lc115 : LCode :=
  (.seq (.region [⟨some 4, .mv (.const (.int .i64 0)), none⟩, ⟨some 5, .mv (.const (.int .i64 0)), none⟩]) (.seq (.seq (.region [⟨some 9, .mv (.tmp 0), none⟩, ⟨some 10, .len (.tmp
    9), none⟩, ⟨some 11, .mv (.const (.int .i64 0)), none⟩]) (.block 0 (.loop (.seq (.region [⟨some 12, .bin .lss (.tmp 11) (.tmp 10), none⟩]) (.seq (.cond (.tmp 12) .skip (.exit
    0)) (.seq (.block 1 (.seq (.region [⟨some 13, .mv (.tmp 11), none⟩, ⟨some 14, .idx 5 (.tmp 9) (.tmp 11), none⟩, ⟨some 15, .load true 5 (.tmp 14), none⟩, ⟨some 7, .alloc [(.int
    .i64 0), (.int .i64 0), (.int .i64 0), (.int .i64 0), (.bool false)], none⟩, ⟨some 6, .mv (.tmp 13), none⟩, ⟨none, .store 5 (.tmp 7) (.tmp 15), none⟩]) (.seq (.region [⟨some 16,
    .mv (.tmp 1), none⟩, ⟨some 17, .mv (.tmp 6), none⟩, ⟨some 18, .load true 5 (.tmp 7), none⟩, ⟨some 19, .call (.tmp 16) [(.tmp 17), (.tmp 18)], none⟩, ⟨some 8, .mv (.tmp 19),
    none⟩]) (.seq (.region [⟨some 20, .mv (.tmp 8), none⟩, ⟨some 21, .bin .neq (.tmp 20) (.const (.int .i64 0)), none⟩]) (.cond (.tmp 21) (.seq (.region [⟨some 22, .mv (.tmp 6),
    none⟩, ⟨some 23, .mv (.tmp 8), none⟩, ⟨some 4, .mv (.tmp 22), none⟩, ⟨some 5, .mv (.tmp 23), none⟩]) .ret) .skip))))) (.region [⟨some 24, .bin .add (.tmp 11) (.const (.int .i64
    1)), none⟩, ⟨some 11, .mv (.tmp 24), none⟩]))))))) (.seq (.region [⟨some 4, .mv (.const (.int .i64 0)), none⟩, ⟨some 5, .mv (.const (.int .i64 0)), none⟩]) .ret)))
theorem low115 : lowF Try.prog [] Try.f115 = some (25, lc115.strip, [.tmp 4, .tmp 5]) := by kernel_rfl
theorem fn115 : FnOk Try.prog 115 25 lc115 [.tmp 4, .tmp 5] := ⟨Try.call115, [], _, Try.func115, low115⟩
/-- moonpool/sonar.CheckScene$1 -/
def lc116 : LCode :=
  (.seq (.region [⟨some 4, .boxS (.tmp 1), none⟩, ⟨some 5, .mv (.const (.int .i64 0)), none⟩]) (.seq (.region [⟨some 6, .load true 5 (.tmp 4), none⟩, ⟨some 7, .fld 0 (.tmp 2),
    none⟩, ⟨some 8, .load false 1 (.tmp 7), none⟩, ⟨some 9, .fld 1 (.tmp 2), none⟩, ⟨some 10, .load false 1 (.tmp 9), none⟩, ⟨some 11, .call (.func 43) [(.tmp 6), (.tmp 8), (.tmp
    10)], none⟩, ⟨some 5, .mv (.tmp 11), none⟩]) .ret))
theorem low116 : lowF Try.prog [4] Try.f116 = some (12, lc116.strip, [.tmp 5]) := by kernel_rfl
theorem fn116 : FnOk Try.prog 116 12 lc116 [.tmp 5] := ⟨Try.call116, [4], _, Try.func116, low116⟩
/-- cmp.isNaN[int] -/
def lc117 : LCode :=
  (.seq (.region [⟨some 2, .mv (.const (.bool false)), none⟩]) (.seq (.region [⟨some 3, .mv (.tmp 0), none⟩, ⟨some 4, .mv (.tmp 0), none⟩, ⟨some 5, .bin .neq (.tmp 3) (.tmp 4),
    none⟩, ⟨some 2, .mv (.tmp 5), none⟩]) .ret))
theorem low117 : lowF Try.prog [] Try.f117 = some (6, lc117.strip, [.tmp 2]) := by kernel_rfl
theorem fn117 : FnOk Try.prog 117 6 lc117 [.tmp 2] := ⟨Try.call117, [], _, Try.func117, low117⟩
/-- moonpool/sonar.said$1 -/
def lc118 : LCode :=
  (.seq (.region [⟨some 7, .load true 5 (.tmp 1), none⟩, ⟨some 8, .call (.func 44) [(.tmp 7)], none⟩, ⟨some 9, .len (.tmp 8), none⟩, ⟨some 10, .mv (.const (.int .i64 0)), none⟩])
    (.block 0 (.loop (.seq (.region [⟨some 11, .bin .lss (.tmp 10) (.tmp 9), none⟩]) (.seq (.cond (.tmp 11) .skip (.exit 0)) (.seq (.block 1 (.seq (.region [⟨some 12, .idx 2 (.tmp
    8) (.tmp 10), none⟩, ⟨some 13, .load true 2 (.tmp 12), none⟩, ⟨some 5, .alloc [(.int .i64 0), (.int .i64 0)], none⟩, ⟨none, .store 2 (.tmp 5) (.tmp 13), none⟩]) (.seq (.region
    [⟨some 6, .mv (.const (.int .i64 1)), none⟩]) (.seq (.seq (.region [⟨some 14, .load true 2 (.tmp 5), none⟩, ⟨some 15, .fld 2 (.tmp 1), none⟩, ⟨some 16, .load true 2 (.tmp 15),
    none⟩, ⟨some 17, .eqA false [false, false] (.tmp 14) (.tmp 16), none⟩, ⟨some 18, .mv (.tmp 17), none⟩, ⟨some 19, .fld 4 (.tmp 1), some (18, true)⟩, ⟨some 20, .load false 1 (.tmp
    19), some (18, true)⟩, ⟨some 21, .pick (.tmp 18) (.tmp 20) (.const (.bool false)), none⟩]) (.cond (.tmp 21) (.region [⟨some 6, .mv (.const (.int .i64 2)), none⟩]) .skip)) (.seq
    (.region [⟨some 22, .mv (.tmp 0), none⟩, ⟨some 23, .load true 2 (.tmp 5), none⟩, ⟨some 24, .load false 1 (.tmp 2), none⟩, ⟨some 25, .call (.func 107) [(.tmp 23), (.tmp 24)],
    none⟩, ⟨some 26, .mv (.tmp 6), none⟩, ⟨some 27, .build [(.int .i64 0), (.int .i64 0)] [(0, 1, (.tmp 25)), (1, 1, (.tmp 26))], none⟩, ⟨some 28, .call (.tmp 22) [(.tmp 27)],
    none⟩, ⟨some 29, .un .not (.tmp 28), none⟩]) (.cond (.tmp 29) .ret .skip)))))) (.region [⟨some 30, .bin .add (.tmp 10) (.const (.int .i64 1)), none⟩, ⟨some 10, .mv (.tmp 30),
    none⟩])))))))
theorem low118 : lowF Try.prog [] Try.f118 = some (31, lc118.strip, []) := by kernel_rfl
theorem fn118 : FnOk Try.prog 118 31 lc118 [] := ⟨Try.call118, [], _, Try.func118, low118⟩
/-- moonpool/sonar.CheckDevices -/
def lc119 : LCode :=
  (.seq (.region [⟨some 2, .mv (.const (.int .i64 0)), none⟩, ⟨some 3, .mv (.const (.int .i64 0)), none⟩]) (.seq (.seq (.region [⟨some 5, .mv (.tmp 0), none⟩, ⟨some 6, .len (.tmp
    5), none⟩, ⟨some 7, .call (.func 110) [(.tmp 6), (.const (.int .i64 5))], none⟩, ⟨some 4, .mv (.tmp 7), none⟩]) (.seq (.region [⟨some 8, .mv (.tmp 4), none⟩, ⟨some 9, .bin .neq
    (.tmp 8) (.const (.int .i64 0)), none⟩]) (.cond (.tmp 9) (.seq (.region [⟨some 10, .mv (.tmp 4), none⟩, ⟨some 2, .mv (.const (.int .i64 0)), none⟩, ⟨some 3, .mv (.tmp 10),
    none⟩]) .ret) .skip))) (.seq (.region [⟨some 11, .mv (.tmp 0), none⟩, ⟨some 12, .call (.func 126) [(.tmp 11), (.func 127)], none⟩, ⟨some 13, .ext (.tmp 12) 0, none⟩, ⟨some 14,
    .ext (.tmp 12) 1, none⟩, ⟨some 2, .mv (.tmp 13), none⟩, ⟨some 3, .mv (.tmp 14), none⟩]) .ret)))
theorem low119 : lowF Try.prog [] Try.f119 = some (15, lc119.strip, [.tmp 2, .tmp 3]) := by kernel_rfl
theorem fn119 : FnOk Try.prog 119 15 lc119 [.tmp 2, .tmp 3] := ⟨Try.call119, [], _, Try.func119, low119⟩
/-- slices.Clip[[]int,int] -/
def lc120 : LCode :=
  (.seq (.region [⟨some 2, .mv (.const (.slice none 0 0)), none⟩]) (.seq (.region [⟨some 3, .mv (.tmp 0), none⟩, ⟨some 4, .mv (.tmp 0), none⟩, ⟨some 5, .len (.tmp 4), none⟩, ⟨some
    6, .mv (.tmp 0), none⟩, ⟨some 7, .len (.tmp 6), none⟩, ⟨some 8, .clip 1 (.tmp 3) (.tmp 5) (.tmp 7), none⟩, ⟨some 2, .mv (.tmp 8), none⟩]) .ret))
theorem low120 : lowF Try.prog [] Try.f120 = some (9, lc120.strip, [.tmp 2]) := by kernel_rfl
theorem fn120 : FnOk Try.prog 120 9 lc120 [.tmp 2] := ⟨Try.call120, [], _, Try.func120, low120⟩
/-- moonpool/sonar.blind -/
def lc121 : LCode :=
  (.seq (.region [⟨some 10, .mv (.const (.bool false)), none⟩]) (.seq (.seq (.region [⟨some 11, .mv (.tmp 2), none⟩, ⟨some 12, .mv (.tmp 3), none⟩, ⟨some 13, .bin .eql (.tmp 11)
    (.tmp 12), none⟩]) (.cond (.tmp 13) (.seq (.region [⟨some 14, .mv (.tmp 0), none⟩, ⟨some 15, .mv (.tmp 2), none⟩, ⟨some 16, .idx 3 (.tmp 14) (.tmp 15), none⟩, ⟨some 17, .load
    true 3 (.tmp 16), none⟩, ⟨some 18, .call (.func 98) [(.tmp 17)], none⟩, ⟨some 19, .mv (.tmp 4), none⟩, ⟨some 20, .bin .gtr (.tmp 18) (.tmp 19), none⟩, ⟨some 10, .mv (.tmp 20),
    none⟩]) .ret) .skip)) (.seq (.regionD [⟨some 21, .mv (.tmp 0), none⟩, ⟨some 22, .mv (.tmp 2), none⟩, ⟨some 23, .idx 3 (.tmp 21) (.tmp 22), none⟩, ⟨some 24, .load true 3 (.tmp
    23), none⟩, ⟨some 25, .mv (.tmp 0), none⟩, ⟨some 26, .mv (.tmp 3), none⟩, ⟨some 27, .idx 3 (.tmp 25) (.tmp 26), none⟩, ⟨some 28, .load true 3 (.tmp 27), none⟩, ⟨some 29, .call
    (.func 97) [(.tmp 24), (.tmp 28)], none⟩, ⟨some 30, .mv (.tmp 29), none⟩, ⟨some 31, .mv (.tmp 0), some (30, true)⟩, ⟨some 32, .mv (.tmp 2), some (30, true)⟩, ⟨some 33, .idx 3
    (.tmp 31) (.tmp 32), some (30, true)⟩, ⟨some 34, .load true 3 (.tmp 33), some (30, true)⟩, ⟨some 35, .mv (.tmp 0), some (30, true)⟩, ⟨some 36, .mv (.tmp 3), some (30, true)⟩,
    ⟨some 37, .idx 3 (.tmp 35) (.tmp 36), some (30, true)⟩, ⟨some 38, .load true 3 (.tmp 37), some (30, true)⟩, ⟨some 39, .mv (.tmp 1), some (30, true)⟩, ⟨some 40, .mv (.tmp 2),
    some (30, true)⟩, ⟨some 41, .idx 1 (.tmp 39) (.tmp 40), some (30, true)⟩, ⟨some 42, .load false 1 (.tmp 41), some (30, true)⟩, ⟨some 43, .mv (.tmp 1), some (30, true)⟩, ⟨some
    44, .mv (.tmp 3), some (30, true)⟩, ⟨some 45, .idx 1 (.tmp 43) (.tmp 44), some (30, true)⟩, ⟨some 46, .load false 1 (.tmp 45), some (30, true)⟩, ⟨some 47, .mv (.tmp 4), some
    (30, true)⟩, ⟨some 48, .call (.func 128) [(.tmp 34), (.tmp 38), (.tmp 42), (.tmp 46), (.tmp 47)], some (30, true)⟩, ⟨some 49, .pick (.tmp 30) (.tmp 48) (.const (.bool false)),
    none⟩, ⟨some 10, .mv (.tmp 49), none⟩] [0, 0, 3, 7, 0, 0, 48, 112, 255, 511, 1023, 1023, 4095, 8191, 1023, 1023, 50175, 115711, 1023, 1023, 787455, 1836031, 1023, 1023,
    12583935, 29361151, 1023, 134217727, 268435455, 536870911] [0, 1, 2, 3, 4, 5, 6, 7, 8, 9, 10, 11, 12, 13, 14, 15, 16, 17, 18, 19, 20, 21, 22, 23, 24, 25, 26, 27, 28, 29])
    .ret)))
theorem low121 : lowF Try.prog [] Try.f121 = some (50, lc121.strip, [.tmp 10]) := by kernel_rfl
theorem fn121 : FnOk Try.prog 121 50 lc121 [.tmp 10] := ⟨Try.call121, [], _, Try.func121, low121⟩
/-- moonpool/sonar.gridErr$1 -/
def lc122 : LCode :=
  (.seq (.region [⟨some 2, .mv (.const (.bool false)), none⟩]) (.seq (.region [⟨some 3, .mv (.tmp 0), none⟩, ⟨some 4, .call (.func 50) [(.tmp 3), (.const (.int .i64 1)), (.const
    (.int .i64 12))], none⟩, ⟨some 2, .mv (.tmp 4), none⟩]) .ret))
theorem low122 : lowF Try.prog [] Try.f122 = some (5, lc122.strip, [.tmp 2]) := by kernel_rfl
theorem fn122 : FnOk Try.prog 122 5 lc122 [.tmp 2] := ⟨Try.call122, [], _, Try.func122, low122⟩
/-- cmp.Less[int] -/
def lc123 : LCode :=
  (.seq (.region [⟨some 4, .mv (.const (.bool false)), none⟩]) (.seq (.region [⟨some 5, .mv (.tmp 0), none⟩, ⟨some 6, .call (.func 117) [(.tmp 5)], none⟩, ⟨some 7, .mv (.tmp 6),
    none⟩, ⟨some 8, .mv (.tmp 1), some (7, true)⟩, ⟨some 9, .call (.func 117) [(.tmp 8)], some (7, true)⟩, ⟨some 10, .un .not (.tmp 9), some (7, true)⟩, ⟨some 11, .pick (.tmp 7)
    (.tmp 10) (.const (.bool false)), none⟩, ⟨some 12, .mv (.tmp 11), none⟩, ⟨some 13, .mv (.tmp 0), some (12, false)⟩, ⟨some 14, .mv (.tmp 1), some (12, false)⟩, ⟨some 15, .bin
    .lss (.tmp 13) (.tmp 14), some (12, false)⟩, ⟨some 16, .pick (.tmp 12) (.const (.bool true)) (.tmp 15), none⟩, ⟨some 4, .mv (.tmp 16), none⟩]) .ret))
theorem low123 : lowF Try.prog [] Try.f123 = some (17, lc123.strip, [.tmp 4]) := by kernel_rfl
theorem fn123 : FnOk Try.prog 123 17 lc123 [.tmp 4] := ⟨Try.call123, [], _, Try.func123, low123⟩
/-- slices.isNaN[int] -/
def lc124 : LCode :=
  (.seq (.region [⟨some 2, .mv (.const (.bool false)), none⟩]) (.seq (.region [⟨some 3, .mv (.tmp 0), none⟩, ⟨some 4, .mv (.tmp 0), none⟩, ⟨some 5, .bin .neq (.tmp 3) (.tmp 4),
    none⟩, ⟨some 2, .mv (.tmp 5), none⟩]) .ret))
theorem low124 : lowF Try.prog [] Try.f124 = some (6, lc124.strip, [.tmp 2]) := by kernel_rfl
theorem fn124 : FnOk Try.prog 124 6 lc124 [.tmp 2] := ⟨Try.call124, [], _, Try.func124, low124⟩
/-- slices.IndexFunc[[]moonpool/api.Gauss,moonpool/api.Gauss] -/
def lc125 : LCode :=
  (.seq (.region [⟨some 4, .mv (.const (.int .i64 0)), none⟩]) (.seq (.seq (.region [⟨some 6, .mv (.tmp 0), none⟩, ⟨some 7, .len (.tmp 6), none⟩, ⟨some 8, .mv (.const (.int .i64
    0)), none⟩]) (.block 0 (.loop (.seq (.region [⟨some 9, .bin .lss (.tmp 8) (.tmp 7), none⟩]) (.seq (.cond (.tmp 9) .skip (.exit 0)) (.seq (.block 1 (.seq (.region [⟨some 10, .mv
    (.tmp 8), none⟩, ⟨some 5, .mv (.tmp 10), none⟩]) (.seq (.region [⟨some 11, .mv (.tmp 1), none⟩, ⟨some 12, .mv (.tmp 0), none⟩, ⟨some 13, .mv (.tmp 5), none⟩, ⟨some 14, .idx 2
    (.tmp 12) (.tmp 13), none⟩, ⟨some 15, .load true 2 (.tmp 14), none⟩, ⟨some 16, .call (.tmp 11) [(.tmp 15)], none⟩]) (.cond (.tmp 16) (.seq (.region [⟨some 17, .mv (.tmp 5),
    none⟩, ⟨some 4, .mv (.tmp 17), none⟩]) .ret) .skip)))) (.region [⟨some 18, .bin .add (.tmp 8) (.const (.int .i64 1)), none⟩, ⟨some 8, .mv (.tmp 18), none⟩]))))))) (.seq (.region
    [⟨some 4, .mv (.const (.int .i64 (-1))), none⟩]) .ret)))
theorem low125 : lowF Try.prog [] Try.f125 = some (19, lc125.strip, [.tmp 4]) := by kernel_rfl
theorem fn125 : FnOk Try.prog 125 19 lc125 [.tmp 4] := ⟨Try.call125, [], _, Try.func125, low125⟩
/-- moonpool/sonar.each[moonpool/api.SonarDevice] -/
def lc126 : LCode :=
  (.seq (.region [⟨some 4, .mv (.const (.int .i64 0)), none⟩, ⟨some 5, .mv (.const (.int .i64 0)), none⟩]) (.seq (.seq (.region [⟨some 9, .mv (.tmp 0), none⟩, ⟨some 10, .len (.tmp
    9), none⟩, ⟨some 11, .mv (.const (.int .i64 0)), none⟩]) (.block 0 (.loop (.seq (.region [⟨some 12, .bin .lss (.tmp 11) (.tmp 10), none⟩]) (.seq (.cond (.tmp 12) .skip (.exit
    0)) (.seq (.block 1 (.seq (.region [⟨some 13, .mv (.tmp 11), none⟩, ⟨some 14, .idx 3 (.tmp 9) (.tmp 11), none⟩, ⟨some 15, .load true 3 (.tmp 14), none⟩, ⟨some 7, .alloc [(.int
    .i64 0), (.int .i64 0), (.int .i64 0)], none⟩, ⟨some 6, .mv (.tmp 13), none⟩, ⟨none, .store 3 (.tmp 7) (.tmp 15), none⟩]) (.seq (.region [⟨some 16, .mv (.tmp 1), none⟩, ⟨some
    17, .mv (.tmp 6), none⟩, ⟨some 18, .load true 3 (.tmp 7), none⟩, ⟨some 19, .call (.tmp 16) [(.tmp 17), (.tmp 18)], none⟩, ⟨some 8, .mv (.tmp 19), none⟩]) (.seq (.region [⟨some
    20, .mv (.tmp 8), none⟩, ⟨some 21, .bin .neq (.tmp 20) (.const (.int .i64 0)), none⟩]) (.cond (.tmp 21) (.seq (.region [⟨some 22, .mv (.tmp 6), none⟩, ⟨some 23, .mv (.tmp 8),
    none⟩, ⟨some 4, .mv (.tmp 22), none⟩, ⟨some 5, .mv (.tmp 23), none⟩]) .ret) .skip))))) (.region [⟨some 24, .bin .add (.tmp 11) (.const (.int .i64 1)), none⟩, ⟨some 11, .mv (.tmp
    24), none⟩]))))))) (.seq (.region [⟨some 4, .mv (.const (.int .i64 0)), none⟩, ⟨some 5, .mv (.const (.int .i64 0)), none⟩]) .ret)))
theorem low126 : lowF Try.prog [] Try.f126 = some (25, lc126.strip, [.tmp 4, .tmp 5]) := by kernel_rfl
theorem fn126 : FnOk Try.prog 126 25 lc126 [.tmp 4, .tmp 5] := ⟨Try.call126, [], _, Try.func126, low126⟩
/-- moonpool/sonar.CheckDevices$1 -/
def lc127 : LCode :=
  (.seq (.region [⟨some 3, .boxS (.tmp 1), none⟩, ⟨some 4, .mv (.const (.int .i64 0)), none⟩]) (.seq (.region [⟨some 6, .fld 0 (.tmp 3), none⟩, ⟨some 7, .load false 1 (.tmp 6),
    none⟩, ⟨some 8, .call (.func 50) [(.tmp 7), (.const (.int .i64 0)), (.const (.int .i64 20))], none⟩, ⟨some 9, .mv (.tmp 8), none⟩, ⟨some 10, .fld 1 (.tmp 3), some (9, true)⟩,
    ⟨some 11, .load false 1 (.tmp 10), some (9, true)⟩, ⟨some 12, .call (.func 50) [(.tmp 11), (.const (.int .i64 1)), (.const (.int .i64 10))], some (9, true)⟩, ⟨some 13, .pick
    (.tmp 9) (.tmp 12) (.const (.bool false)), none⟩, ⟨some 14, .mv (.tmp 13), none⟩, ⟨some 15, .fld 2 (.tmp 3), some (14, true)⟩, ⟨some 16, .load false 1 (.tmp 15), some (14,
    true)⟩, ⟨some 17, .call (.func 50) [(.tmp 16), (.const (.int .i64 0)), (.const (.int .i64 10))], some (14, true)⟩, ⟨some 18, .pick (.tmp 14) (.tmp 17) (.const (.bool false)),
    none⟩, ⟨some 5, .mv (.tmp 18), none⟩]) (.seq (.region [⟨some 19, .mv (.tmp 5), none⟩, ⟨some 20, .call (.func 49) [(.tmp 19), (.const (.int .i64 2))], none⟩, ⟨some 4, .mv (.tmp
    20), none⟩]) .ret)))
theorem low127 : lowF Try.prog [3] Try.f127 = some (21, lc127.strip, [.tmp 4]) := by kernel_rfl
theorem fn127 : FnOk Try.prog 127 21 lc127 [.tmp 4] := ⟨Try.call127, [3], _, Try.func127, low127⟩
/-- moonpool/sonar.meet -/
def lc128 : LCode :=
  (.seq (.region [⟨some 5, .boxS (.tmp 0), none⟩, ⟨some 6, .boxS (.tmp 1), none⟩, ⟨some 10, .mv (.const (.bool false)), none⟩]) (.seq (.region [⟨some 12, .mv (.tmp 3), none⟩, ⟨some
    13, .mv (.tmp 2), none⟩, ⟨some 14, .bin .sub (.tmp 12) (.tmp 13), none⟩, ⟨some 15, .mv (.tmp 4), none⟩, ⟨some 16, .bin .add (.tmp 14) (.tmp 15), none⟩, ⟨some 17, .mv (.tmp 4),
    none⟩, ⟨some 18, .bin .rem (.tmp 16) (.tmp 17), none⟩, ⟨some 11, .mv (.tmp 18), none⟩]) (.seq (.regionD [⟨some 19, .mv (.tmp 11), none⟩, ⟨some 20, .load true 3 (.tmp 5), none⟩,
    ⟨some 21, .call (.func 98) [(.tmp 20)], none⟩, ⟨some 22, .bin .lss (.tmp 19) (.tmp 21), none⟩, ⟨some 23, .mv (.tmp 22), none⟩, ⟨some 24, .mv (.tmp 4), some (23, false)⟩, ⟨some
    25, .mv (.tmp 11), some (23, false)⟩, ⟨some 26, .bin .sub (.tmp 24) (.tmp 25), some (23, false)⟩, ⟨some 27, .mv (.tmp 4), some (23, false)⟩, ⟨some 28, .bin .rem (.tmp 26) (.tmp
    27), some (23, false)⟩, ⟨some 29, .load true 3 (.tmp 6), some (23, false)⟩, ⟨some 30, .call (.func 98) [(.tmp 29)], some (23, false)⟩, ⟨some 31, .bin .lss (.tmp 28) (.tmp 30),
    some (23, false)⟩, ⟨some 32, .pick (.tmp 23) (.const (.bool true)) (.tmp 31), none⟩, ⟨some 10, .mv (.tmp 32), none⟩] [0, 0, 2, 7, 15, 31, 31, 127, 31, 511, 31, 1055, 4095, 8191,
    16383] [0, 1, 2, 3, 4, 5, 6, 7, 8, 9, 10, 11, 12, 13, 14]) .ret)))
theorem low128 : lowF Try.prog [5, 6] Try.f128 = some (33, lc128.strip, [.tmp 10]) := by kernel_rfl
theorem fn128 : FnOk Try.prog 128 33 lc128 [.tmp 10] := ⟨Try.call128, [5, 6], _, Try.func128, low128⟩
end Go.Pw

set_option linter.unusedSimpArgs false
namespace Go.Pw
set_option maxRecDepth 2000
open Go Go.Proofs A1 A2 A3 A4
instance : Mix Try.prog := ⟨⟨by kernel_rfl⟩⟩
theorem C17 {n lo hi : Int} : PFD Try.prog 17 [vi .i64 n, vi .i64 lo, vi .i64 hi] (vbl (decide (lo ≤ n ∧ n ≤ hi))) := by
  refine pi1 fn17 ?_
  (repeat' first | (refine Owe.same ?_; first | refine Owe.o ?_ | refine Owe.mk ?_ ?_) | (refine Fork.same ?_; (first | refine fkD ?_ ?_ | refine fkN ?_ ?_ | refine fkM ?_ ?_) <;> intro h) | refine MvQ.stay ?_)
  · (refine rqK rfl ?_; (repeat' first | exact rfl | (refine qS ?_; constructor))); simp [*]
  · (refine rqK rfl ?_; (repeat' first | exact rfl | (refine qS ?_; constructor))); simp only [decide_eq_false_iff_not]; omega
theorem C50 {n lo hi : Int} : PFD Try.prog 50 [vi .i64 n, vi .i64 lo, vi .i64 hi] (vbl (decide (lo ≤ n ∧ n ≤ hi))) := by
  refine pi1 fn50 ?_
  (repeat' first | (refine Owe.same ?_; first | refine Owe.o ?_ | refine Owe.mk ?_ ?_) | (refine Fork.same ?_; (first | refine fkD ?_ ?_ | refine fkN ?_ ?_ | refine fkM ?_ ?_) <;> intro h) | refine MvQ.stay ?_)
  · (refine rqK rfl ?_; (repeat' first | exact rfl | (refine qS ?_; constructor))); simp [*]
  · (refine rqK rfl ?_; (repeat' first | exact rfl | (refine qS ?_; constructor))); simp only [decide_eq_false_iff_not]; omega
theorem C80 {n : Int} : (-4611686018427387904 ≤ n ∧ n ≤ 4611686018427387904) → PFD Try.prog 80 [vi .i64 n] (vi .i64 (max n (-n))) := fun h => by
  refine pi1 fn80 ?_
  (repeat' first | (refine Owe.same ?_; first | refine Owe.o ?_ | refine Owe.mk ?_ ?_) | (refine Fork.same ?_; (first | refine fkD ?_ ?_ | refine fkN ?_ ?_ | refine fkM ?_ ?_) <;> intro h) | refine MvQ.stay ?_)
  (refine rqK rfl ?_; (repeat' first | exact rfl | (refine qS ?_; constructor)))
theorem C49 {b : Bool} {e : Int} : PFD Try.prog 49 [vbl b, vi .i64 e] (vi .i64 (unb b e)) := by
  refine pi1 fn49 ?_
  (repeat' first | (refine Owe.same ?_; first | refine Owe.o ?_ | refine Owe.mk ?_ ?_) | (refine Fork.same ?_; (first | refine fkD ?_ ?_ | refine fkN ?_ ?_ | refine fkM ?_ ?_) <;> intro h) | refine MvQ.stay ?_)
  · (refine rqK rfl ?_; (repeat' first | exact rfl | (refine qS ?_; constructor))); simp [unb, *]
  · (refine rqK rfl ?_; (repeat' first | exact rfl | (refine qS ?_; constructor))); simp [unb, *]
theorem C47 {l : List Int} : l.length < 4611686018427387904 → PFD Try.prog 47 [.c (ints l)] (vi .i64 (fstE l)) := fun hl => by
  refine pi1 fn47 ?_
  (repeat' first | (refine Owe.same ?_; first | refine Owe.o ?_ | refine Owe.mk ?_ ?_) | (refine Fork.same ?_; (first | refine fkD ?_ ?_ | refine fkN ?_ ?_ | refine fkM ?_ ?_) <;> intro h) | refine MvQ.stay ?_)
  refine Sat.lp0 (fun k : Nat => [(7, vi .i64 k), (6, vi .i64 l.length), (5, .c (ints l))]) (fun k => k ≤ l.length ∧ fstE l = fstE (l.drop k)) (fun k => l.length - k) 0 ⟨Nat.zero_le _, rfl⟩ (by ((first | refine qen ?_ | refine qvs ?_ | refine qeq ?_ | refine qst ?_ | refine qv ?_ | refine qc ?_ | refine qe ?_ | refine qcs ?_ | skip); (repeat' first | exact rfl | (refine qS ?_; constructor)))) ?_
  intro k hk
  (repeat' first | (refine Owe.same ?_; first | refine Owe.o ?_ | refine Owe.mk ?_ ?_) | (refine Fork.same ?_; (first | refine fkD ?_ ?_ | refine fkN ?_ ?_ | refine fkM ?_ ?_) <;> intro h) | refine MvQ.stay ?_)
  · simp only [Int.toNat_natCast] at h
    (refine rqK rfl ?_; (repeat' first | exact rfl | (refine qS ?_; constructor)))
    rw [hk.2, fstE_drop l k (by omega), if_neg h, Int.toNat_natCast]
  · simp only [Int.toNat_natCast] at h
    refine again0 (k + 1) ⟨by omega, ?_⟩ (by omega) (by ((first | refine qen ?_ | refine qvs ?_ | refine qeq ?_ | refine qst ?_ | refine qv ?_ | refine qc ?_ | refine qe ?_ | refine qcs ?_ | skip); (repeat' first | exact rfl | (refine qS ?_; constructor))))
    rw [hk.2, fstE_drop l k (by omega), if_pos h]
  · (refine rqK rfl ?_; (repeat' first | exact rfl | (refine qS ?_; constructor)))
    rw [hk.2, List.drop_of_length_le (by omega)]; rfl
theorem C22 {n b : Int} : (w64 n ∧ 0 < b ∧ Md b) → PFD Try.prog 22 [vi .i64 n, vi .i64 b] (vi .i64 (n % b)) := fun ⟨hn, hb, hb'⟩ => by
  have h5 := tmod_bd (n := n) hb
  refine pi1 fn22 ?_
  (repeat' first | (refine Owe.same ?_; first | refine Owe.o ?_ | refine Owe.mk ?_ ?_) | (refine Fork.same ?_; (first | refine fkD ?_ ?_ | refine fkN ?_ ?_ | refine fkM ?_ ?_) <;> intro h) | refine MvQ.stay ?_)
  · (refine rqK rfl ?_; (repeat' first | exact rfl | (refine qS ?_; constructor))); rw [← mod_eq hb, if_pos h]
  · (refine rqK rfl ?_; (repeat' first | exact rfl | (refine qS ?_; constructor))); rw [← mod_eq hb, if_neg h]
theorem C19 {l m : List Int} : l.length < 4611686018427387904 → PFD Try.prog 19 [.c (ints l), .c (ints m)] (vbl (decide (l = m))) := fun hl => by
  refine pi1 fn19 ?_
  (repeat' first | (refine Owe.same ?_; first | refine Owe.o ?_ | refine Owe.mk ?_ ?_) | (refine Fork.same ?_; (first | refine fkD ?_ ?_ | refine fkN ?_ ?_ | refine fkM ?_ ?_) <;> intro h) | refine MvQ.stay ?_)
  · (refine rqK rfl ?_; (repeat' first | exact rfl | (refine qS ?_; constructor))); simp only [decide_eq_false_iff_not]; intro he; subst he; omega
  · have hlm : l.length = m.length := by omega
    clear h
    refine Sat.lp0 (fun k : Nat => [(5, vi .i64 k), (0, .c (ints l)), (1, .c (ints m))]) (fun k => k ≤ l.length ∧ ∀ i, i < k → l.getD i 0 = m.getD i 0) (fun k => l.length - k) 0 ⟨Nat.zero_le _, fun i hi => by omega⟩ (by ((first | refine qen ?_ | refine qvs ?_ | refine qeq ?_ | refine qst ?_ | refine qv ?_ | refine qc ?_ | refine qe ?_ | refine qcs ?_ | skip); (repeat' first | exact rfl | (refine qS ?_; constructor)))) ?_
    intro k hk
    (repeat' first | (refine Owe.same ?_; first | refine Owe.o ?_ | refine Owe.mk ?_ ?_) | (refine Fork.same ?_; (first | refine fkD ?_ ?_ | refine fkN ?_ ?_ | refine fkM ?_ ?_) <;> intro h) | refine MvQ.stay ?_)
    · simp only [Int.toNat_natCast] at h
      (refine rqK rfl ?_; (repeat' first | exact rfl | (refine qS ?_; constructor))); simp only [decide_eq_false_iff_not]; intro he; subst he; exact h rfl
    · simp only [Int.toNat_natCast] at h
      refine again0 (k + 1) ⟨by omega, fun i hi => ?_⟩ (by omega) (by ((first | refine qen ?_ | refine qvs ?_ | refine qeq ?_ | refine qst ?_ | refine qv ?_ | refine qc ?_ | refine qe ?_ | refine qcs ?_ | skip); (repeat' first | exact rfl | (refine qS ?_; constructor))))
      rcases Nat.lt_succ_iff_lt_or_eq.1 hi with h3 | rfl
      · exact hk.2 i h3
      · exact h
    · (refine rqK rfl ?_; (repeat' first | exact rfl | (refine qS ?_; constructor))); simp only [decide_eq_true_eq]; exact ext_getD 0 hlm fun i hi => hk.2 i (by omega)
theorem C24 {l : List Int} {n : Int} : l.length < 4611686018427387904 → PFD Try.prog 24 [.c (ints l), vi .i64 n] (vbl (decide (n ∈ l))) := fun hl => by
  refine pi1 fn24 ?_
  (repeat' first | (refine Owe.same ?_; first | refine Owe.o ?_ | refine Owe.mk ?_ ?_) | (refine Fork.same ?_; (first | refine fkD ?_ ?_ | refine fkN ?_ ?_ | refine fkM ?_ ?_) <;> intro h) | refine MvQ.stay ?_)
  refine Sat.lp0 (fun k : Nat => [(5, vi .i64 k), (0, .c (ints l)), (1, vi .i64 n)]) (fun k => k ≤ l.length ∧ ∀ i, i < k → l.getD i 0 ≠ n) (fun k => l.length - k) 0 ⟨Nat.zero_le _, fun i hi => by omega⟩ (by ((first | refine qen ?_ | refine qvs ?_ | refine qeq ?_ | refine qst ?_ | refine qv ?_ | refine qc ?_ | refine qe ?_ | refine qcs ?_ | skip); (repeat' first | exact rfl | (refine qS ?_; constructor)))) ?_
  intro k hk
  (repeat' first | (refine Owe.same ?_; first | refine Owe.o ?_ | refine Owe.mk ?_ ?_) | (refine Fork.same ?_; (first | refine fkD ?_ ?_ | refine fkN ?_ ?_ | refine fkM ?_ ?_) <;> intro h) | refine MvQ.stay ?_)
  · simp only [Int.toNat_natCast] at h
    (refine rqK rfl ?_; (repeat' first | exact rfl | (refine qS ?_; constructor))); simp only [decide_eq_true_eq]; rw [← h, List.getD_eq_getElem?_getD, List.getElem?_eq_getElem (show k < l.length by omega)]; exact List.getElem_mem _
  · simp only [Int.toNat_natCast] at h
    refine again0 (k + 1) ⟨by omega, fun i hi => ?_⟩ (by omega) (by ((first | refine qen ?_ | refine qvs ?_ | refine qeq ?_ | refine qst ?_ | refine qv ?_ | refine qc ?_ | refine qe ?_ | refine qcs ?_ | skip); (repeat' first | exact rfl | (refine qS ?_; constructor))))
    rcases Nat.lt_succ_iff_lt_or_eq.1 hi with h3 | rfl
    · exact hk.2 i h3
    · exact h
  · (refine rqK rfl ?_; (repeat' first | exact rfl | (refine qS ?_; constructor))); simp only [decide_eq_false_iff_not]
    intro hm
    obtain ⟨i, hi, he⟩ := List.getElem_of_mem hm
    refine hk.2 i (by omega) ?_
    rw [List.getD_eq_getElem?_getD, List.getElem?_eq_getElem hi]; exact he
abbrev Pr := Int × Int
abbrev gMul (a b : Pr) : Pr := (a.1 * b.1 - a.2 * b.2, a.1 * b.2 + a.2 * b.1)
abbrev gConj (a : Pr) : Pr := (a.1, -a.2)
abbrev gAdd (a b : Pr) : Pr := (a.1 + b.1, a.2 + b.2)
abbrev gNorm (a : Pr) : Int := a.1 * a.1 + a.2 * a.2
abbrev pr (p : Pr) : V := .agg [int p.1, int p.2]
/-- Both parts are at most so great. -/
abbrev pB (n : Int) (p : Pr) : Prop := (-n ≤ p.1 ∧ p.1 ≤ n) ∧ -n ≤ p.2 ∧ p.2 ≤ n
theorem C23 {a : Pr} : pB 1000000 a → PFD Try.prog 23 [pr a] (pr (gConj a)) := fun h => by
  refine pi1 fn23 ?_
  (repeat' first | (refine Owe.same ?_; first | refine Owe.o ?_ | refine Owe.mk ?_ ?_) | (refine Fork.same ?_; (first | refine fkD ?_ ?_ | refine fkN ?_ ?_ | refine fkM ?_ ?_) <;> intro h) | refine MvQ.stay ?_)
  (refine rqK rfl ?_; (repeat' first | exact rfl | (refine qS ?_; constructor)))
theorem gMul_bd {a b : Pr} {A B : Int} (ha : pB A a) (hb : pB B b) : pB (2 * (A * B)) (gMul a b) := by
  have h1 := mbd ha.1 hb.1
  have h2 := mbd ha.1 hb.2
  have h3 := mbd ha.2 hb.1
  have h4 := mbd ha.2 hb.2
  refine ⟨⟨?_, ?_⟩, ?_, ?_⟩ <;> simp only [gMul] <;> omega
theorem C21 {a b : Pr} : (pB 1000000 a ∧ pB 1000000 b) → PFD Try.prog 21 [pr a, pr b] (pr (gMul a b)) := fun ⟨ha, hb⟩ => by
  have h1 := mbd ha.1 hb.1
  have h2 := mbd ha.1 hb.2
  have h3 := mbd ha.2 hb.1
  have h4 := mbd ha.2 hb.2
  refine pi1 fn21 ?_
  (repeat' first | (refine Owe.same ?_; first | refine Owe.o ?_ | refine Owe.mk ?_ ?_) | (refine Fork.same ?_; (first | refine fkD ?_ ?_ | refine fkN ?_ ?_ | refine fkM ?_ ?_) <;> intro h) | refine MvQ.stay ?_)
  (refine rqK rfl ?_; (repeat' first | exact rfl | (refine qS ?_; constructor)))
theorem C14 {l : List Pr} : l.length ≤ 1000000 → PFD Try.prog 14 [.c (prs l)] (.c (prs l)) := fun h => by
  refine pi1 fn14 ?_
  (repeat' first | (refine Owe.same ?_; first | refine Owe.o ?_ | refine Owe.mk ?_ ?_) | (refine Fork.same ?_; (first | refine fkD ?_ ?_ | refine fkN ?_ ?_ | refine fkM ?_ ?_) <;> intro h) | refine MvQ.stay ?_)
  (refine rqK rfl ?_; (repeat' first | exact rfl | (refine qS ?_; constructor)))
/-- The error of a number of items. -/
def cntE (n most : Int) : Int := fstE [unl (0 < n) 10, unl (n ≤ most) 8]
theorem C110 {n m : Int} : PFD Try.prog 110 [vi .i64 n, vi .i64 m] (vi .i64 (cntE n m)) := by
  refine pi1 fn110 ?_
  (repeat' first | (refine Owe.same ?_; first | refine Owe.o ?_ | refine Owe.mk ?_ ?_) | (refine Fork.same ?_; (first | refine fkD ?_ ?_ | refine fkN ?_ ?_ | refine fkM ?_ ?_) <;> intro h) | ((first | refine OpsL.same ?_ | refine OpsDL.same ?_); first | refine pK C49 rfl rfl ?_ | refine pK C47 rfl rfl ?_) | refine MvQ.stay ?_)
  (refine rqK rfl ?_; (repeat' first | exact rfl | (refine qS ?_; constructor)))
end Go.Pw

set_option linter.unusedSimpArgs false
namespace Go.Pw
set_option maxRecDepth 2000
open Go Go.Proofs A1 A2 A3 A4
/-- The first index from k on at which f holds; -1: there is none. -/
def idxI {α : Type} (f : α → Bool) : Int → List α → Int
  | _, [] => -1
  | k, x :: l => if f x = true then k else idxI f (k + 1) l
theorem idxI_drop {α : Type} (f : α → Bool) (d : α) (l : List α) (k : Nat) (h : k < l.length) : idxI f k (l.drop k) = if f (l.getD k d) = true then (k : Int) else idxI f ((k + 1 : Nat) : Int) (l.drop (k + 1)) := by
  rw [List.drop_eq_getElem_cons h, idxI, List.getD_eq_getElem?_getD, List.getElem?_eq_getElem h]
  rfl
theorem idxI_any {α : Type} (f : α → Bool) : ∀ (l : List α) (k : Int), 0 ≤ k → decide (0 ≤ idxI f k l) = l.any f
  | [], k, _ => rfl
  | x :: l, k, hk => by
    rw [idxI, List.any_cons]
    split
    · rename_i h; rw [h, decide_eq_true hk]; rfl
    · rename_i h; rw [idxI_any f l (k + 1) (by omega)]; simp [h]
theorem C109 {z : Pr} : PFD Try.prog 109 [pr z] (vbl (decide (¬ pB 1000 z))) := by
  refine pi1 fn109 ?_
  (repeat' first | (refine Owe.same ?_; first | refine Owe.o ?_ | refine Owe.mk ?_ ?_) | (refine Fork.same ?_; (first | refine fkD ?_ ?_ | refine fkN ?_ ?_ | refine fkM ?_ ?_) <;> intro h) | ((first | refine OpsL.same ?_ | refine OpsDL.same ?_); first | refine pK C50 rfl rfl ?_) | refine MvQ.stay ?_)
  all_goals ((refine rqK rfl ?_; (repeat' first | exact rfl | (refine qS ?_; constructor))); first | (simp only [decide_eq_true_eq]; omega) | (rw [Bool.eq_iff_iff]; simp only [Bool.not_eq_true', decide_eq_true_eq, decide_eq_false_iff_not]; omega))
theorem C125 {g : FuncId} {f : Pr → Bool} (hg : ∀ x : Pr, PFD Try.prog g [pr x] (vbl (f x))) {l : List Pr} : l.length ≤ 1000000 → PFD Try.prog 125 [.c (prs l), .c (.fn g [])] (vi .i64 (idxI f 0 l)) := fun hl => by
  refine pi1 fn125 ?_
  (repeat' first | (refine Owe.same ?_; first | refine Owe.o ?_ | refine Owe.mk ?_ ?_) | (refine Fork.same ?_; (first | refine fkD ?_ ?_ | refine fkN ?_ ?_ | refine fkM ?_ ?_) <;> intro h) | refine MvQ.stay ?_)
  refine Sat.lp0 (fun k : Nat => [(8, vi .i64 k), (7, vi .i64 l.length), (6, .c (prs l)), (0, .c (prs l)), (1, .c (.fn g []))]) (fun k => k ≤ l.length ∧ idxI f 0 l = idxI f k (l.drop k)) (fun k => l.length - k) 0 ⟨Nat.zero_le _, rfl⟩ (by ((first | refine qen ?_ | refine qvs ?_ | refine qeq ?_ | refine qst ?_ | refine qv ?_ | refine qc ?_ | refine qe ?_ | refine qcs ?_ | skip); (repeat' first | exact rfl | (refine qS ?_; constructor)))) ?_
  intro k hk
  (repeat' first | (refine Owe.same ?_; first | refine Owe.o ?_ | refine Owe.mk ?_ ?_) | (refine Fork.same ?_; (first | refine fkD ?_ ?_ | refine fkN ?_ ?_ | refine fkM ?_ ?_) <;> intro h) | ((first | refine OpsL.same ?_ | refine OpsDL.same ?_); first | refine pK (hg _) rfl rfl ?_) | refine MvQ.stay ?_)
  · have e := idxI_drop f (0, 0) l k (by omega)
    have h : f (l.getD k (0, 0)) = true := h
    rw [if_pos h, ← hk.2] at e
    (refine rqK rfl ?_; (repeat' first | exact rfl | (refine qS ?_; constructor))); rw [e]
  · have e := idxI_drop f (0, 0) l k (by omega)
    have h : f (l.getD k (0, 0)) = false := h
    rw [if_neg (by rw [h]; decide), ← hk.2] at e
    exact again0 (k + 1) ⟨by omega, e⟩ (by omega) (by ((first | refine qen ?_ | refine qvs ?_ | refine qeq ?_ | refine qst ?_ | refine qv ?_ | refine qc ?_ | refine qe ?_ | refine qcs ?_ | skip); (repeat' first | exact rfl | (refine qS ?_; constructor))))
  · have e : idxI f 0 l = -1 := by rw [hk.2, List.drop_of_length_le (by omega)]; rfl
    (refine rqK rfl ?_; (repeat' first | exact rfl | (refine qS ?_; constructor))); rw [e]
theorem C108 {g : FuncId} {f : Pr → Bool} (hg : ∀ x : Pr, PFD Try.prog g [pr x] (vbl (f x))) {l : List Pr} : l.length ≤ 1000000 → PFD Try.prog 108 [.c (prs l), .c (.fn g [])] (vbl (l.any f)) := fun hl => by
  refine pi1 fn108 ?_
  (repeat' first | (refine Owe.same ?_; first | refine Owe.o ?_ | refine Owe.mk ?_ ?_) | (refine Fork.same ?_; (first | refine fkD ?_ ?_ | refine fkN ?_ ?_ | refine fkM ?_ ?_) <;> intro h) | ((first | refine OpsL.same ?_ | refine OpsDL.same ?_); first | refine pK (C125 hg hl) rfl rfl ?_) | refine MvQ.stay ?_)
  (refine rqK rfl ?_; (repeat' first | exact rfl | (refine qS ?_; constructor)))
  exact idxI_any f l 0 (Int.le_refl _)
/-- The error of samples. -/
def smE (m : Int) (l : List Pr) : Int := fstE [cntE l.length m, unb (!l.any fun z => decide (¬ pB 1000 z)) 2]
theorem C82 {l : List Pr} {m : Int} : l.length ≤ 1000000 → PFD Try.prog 82 [.c (prs l), vi .i64 m] (vi .i64 (smE m l)) := fun hl => by
  refine pi1 fn82 ?_
  (repeat' first | (refine Owe.same ?_; first | refine Owe.o ?_ | refine Owe.mk ?_ ?_) | (refine Fork.same ?_; (first | refine fkD ?_ ?_ | refine fkN ?_ ?_ | refine fkM ?_ ?_) <;> intro h) | ((first | refine OpsL.same ?_ | refine OpsDL.same ?_); first | refine pK (C108 (fun x => C109 (z := x)) hl) rfl rfl ?_ | refine pK C110 rfl rfl ?_ | refine pK C49 rfl rfl ?_ | refine pK C47 rfl rfl ?_) | refine MvQ.stay ?_)
  (refine rqK rfl ?_; (repeat' first | exact rfl | (refine qS ?_; constructor)))
def osE (T S : List Pr) : Int := fstE [smE 8 T, smE 40 S]
theorem C48 {T S : List Pr} : (T.length ≤ 1000000 ∧ S.length ≤ 1000000) → PFD Try.prog 48 [.c (prs T), .c (prs S)] (vi .i64 (osE T S)) := fun ⟨hT, hS⟩ => by
  refine pi1 fn48 ?_
  (repeat' first | (refine Owe.same ?_; first | refine Owe.o ?_ | refine Owe.mk ?_ ?_) | (refine Fork.same ?_; (first | refine fkD ?_ ?_ | refine fkN ?_ ?_ | refine fkM ?_ ?_) <;> intro h) | ((first | refine OpsL.same ?_ | refine OpsDL.same ?_); first | refine pK C82 rfl rfl ?_ | refine pK C47 rfl rfl ?_) | refine MvQ.stay ?_)
  (refine rqK rfl ?_; (repeat' first | exact rfl | (refine qS ?_; constructor)))
def mt (T S : List Pr) (sh : Nat) : Nat → Pr
  | 0 => (0, 0)
  | k + 1 => gAdd (mt T S sh k) (gMul (gConj (T.getD k (0, 0))) (S.getD (sh + k) (0, 0)))
structure SmOk (T S : List Pr) (sh : Nat) : Prop where
  n : T.length ≤ 8
  m : sh + T.length ≤ S.length
  t : ∀ i, i < T.length → pB 1000 (T.getD i (0, 0))
  s : ∀ i, i < S.length → pB 1000 (S.getD i (0, 0))
theorem mt_bd {T S : List Pr} {sh : Nat} (h : SmOk T S sh) : ∀ k, k ≤ T.length → pB (k * 2000000) (mt T S sh k)
  | 0, _ => by refine ⟨⟨?_, ?_⟩, ?_, ?_⟩ <;> simp [mt]
  | k + 1, hk => by
    have ih := mt_bd h k (by omega)
    have h1 := h.t k (by omega)
    have h2 := h.s (sh + k) (by have := h.m; omega)
    have h3 := gMul_bd (a := gConj (T.getD k (0, 0))) (A := 1000) (B := 1000) (by refine ⟨h1.1, ?_, ?_⟩ <;> simp only [gConj] <;> omega) h2
    simp only [gMul, gConj] at h3
    simp only [mt]
    refine ⟨⟨?_, ?_⟩, ?_, ?_⟩ <;> simp only [gAdd, gMul, gConj] <;> omega
theorem C51 {T S : List Pr} {sh n : Nat} : (SmOk T S sh ∧ T.length ≤ n) → PFD Try.prog 51 [.c (prs T), .c (.d (.sl 2 n fun i => r2 (S.getD (sh + i) (0, 0))))] (.c (.cx (mt T S sh T.length).1 (mt T S sh T.length).2)) := fun ⟨hO, hn⟩ => by
  have hn8 := hO.n
  refine pi1 fn51 ?_
  (repeat' first | (refine Owe.same ?_; first | refine Owe.o ?_ | refine Owe.mk ?_ ?_) | (refine Fork.same ?_; (first | refine fkD ?_ ?_ | refine fkN ?_ ?_ | refine fkM ?_ ?_) <;> intro h) | refine MvQ.stay ?_)
  refine Sat.lp0 (fun k : Nat => [(10, vi .i64 k), (9, vi .i64 T.length), (8, .c (prs T)), (1, .c (.d (.sl 2 n fun i => r2 (S.getD (sh + i) (0, 0))))), (5, .c (.cx (mt T S sh k).1 (mt T S sh k).2))]) (fun k => k ≤ T.length) (fun k => T.length - k) 0 (Nat.zero_le _) (by ((first | refine qen ?_ | refine qvs ?_ | refine qeq ?_ | refine qst ?_ | refine qv ?_ | refine qc ?_ | refine qe ?_ | refine qcs ?_ | skip); (repeat' first | exact rfl | (refine qS ?_; constructor)))) ?_
  intro k hk
  have hb := mt_bd hO k hk
  refine Fork.dec (fun hlt => ?_) (fun hlt => ?_)
  · have hlt : k < T.length := by omega
    have h1 := hO.t k hlt
    have h2 := hO.s (sh + k) (by have := hO.m; omega)
    have m1 := mbd h1.1 h2.1
    have m2 := mbd (a := -(T.getD k (0, 0)).2) (A := 1000) (by omega) h2.2
    have m3 := mbd h1.1 h2.2
    have m4 := mbd (a := -(T.getD k (0, 0)).2) (A := 1000) (by omega) h2.1
    (repeat' first | (refine Owe.same ?_; first | refine Owe.o ?_ | refine Owe.mk ?_ ?_) | (refine Fork.same ?_; (first | refine fkD ?_ ?_ | refine fkN ?_ ?_ | refine fkM ?_ ?_) <;> intro h) | refine MvQ.stay ?_)
    exact again0 (k + 1) hlt (by omega) (by ((first | refine qen ?_ | refine qvs ?_ | refine qeq ?_ | refine qst ?_ | refine qv ?_ | refine qc ?_ | refine qe ?_ | refine qcs ?_ | skip); (repeat' first | exact rfl | (refine qS ?_; constructor))))
  · (repeat' first | (refine Owe.same ?_; first | refine Owe.o ?_ | refine Owe.mk ?_ ?_) | (refine Fork.same ?_; (first | refine fkD ?_ ?_ | refine fkN ?_ ?_ | refine fkM ?_ ?_) <;> intro h) | refine MvQ.stay ?_)
    have : k = T.length := by omega
    subst this
    (refine rqK rfl ?_; (repeat' first | exact rfl | (refine qS ?_; constructor)))
/-- The parts of a match, as numbers. -/
theorem mt_R {T S : List Pr} {sh : Nat} (h : SmOk T S sh) : pB 16000000 (mt T S sh T.length) := by
  have h1 := mt_bd h T.length (Nat.le_refl _)
  have h2 := h.n
  refine ⟨⟨?_, ?_⟩, ?_, ?_⟩ <;> omega
def mxL (a : Int) : List Int → Int
  | [] => a
  | x :: l => mxL (max a x) l
theorem mxL_drop (a : Int) (l : List Int) (k : Nat) (h : k < l.length) : mxL a (l.drop k) = mxL (max a (l.getD k 0)) (l.drop (k + 1)) := by
  rw [List.drop_eq_getElem_cons h, mxL, List.getD_eq_getElem?_getD, List.getElem?_eq_getElem h]
  rfl
theorem mxL_le {l : List Int} : ∀ {a b : Int}, mxL a l ≤ b ↔ a ≤ b ∧ ∀ x ∈ l, x ≤ b := by
  induction l with
  | nil => intro a b; simp [mxL]
  | cons x l ih => intro a b; rw [mxL, ih]; simp only [List.mem_cons, forall_eq_or_imp]; constructor <;> intro h <;> refine ⟨by omega, ?_⟩ <;> first | exact h.2 | exact ⟨by omega, h.2⟩ | exact h.2.2
theorem le_mxL {l : List Int} : ∀ {a : Int}, a ≤ mxL a l := by
  induction l with
  | nil => intro a; exact Int.le_refl _
  | cons x l ih => intro a; rw [mxL]; exact Int.le_trans (by omega) ih
theorem C54 {l : List Int} : (0 < l.length ∧ l.length ≤ 1000000) → PFD Try.prog 54 [.c (ints l)] (vi .i64 (mxL (l.getD 0 0) (l.drop 1))) := fun ⟨h0, hl⟩ => by
  refine pi1 fn54 ?_
  (repeat' first | (refine Owe.same ?_; first | refine Owe.o ?_ | refine Owe.mk ?_ ?_) | (refine Fork.same ?_; (first | refine fkY ?_ | refine fkF ?_ | ((first | refine fkD ?_ ?_ | refine fkN ?_ ?_ | refine fkM ?_ ?_) <;> intro h))) | ((first | refine OpsL.same ?_ | refine OpsDL.same ?_); first | refine oK C50 rfl rfl rfl ?_) | refine MvQ.stay ?_)
  refine Sat.lp0 (fun p : Nat × Int => [(4, vi .i64 (p.1 : Int)), (0, .c (ints l)), (3, vi .i64 p.2)]) (fun p => p.1 ≤ l.length ∧ mxL (l.getD 0 0) (l.drop 1) = mxL p.2 (l.drop p.1)) (fun p => l.length - p.1) (1, l.getD 0 0) ⟨by omega, rfl⟩ (by ((first | refine qen ?_ | refine qvs ?_ | refine qeq ?_ | refine qst ?_ | refine qv ?_ | refine qc ?_ | refine qe ?_ | refine qcs ?_ | skip); (repeat' first | exact rfl | (refine qS ?_; constructor)))) ?_
  intro ⟨k, a⟩ ⟨hk, he⟩
  simp only at hk he
  (repeat' first | (refine Owe.same ?_; first | refine Owe.o ?_ | refine Owe.mk ?_ ?_) | (refine Fork.same ?_; (first | refine fkD ?_ ?_ | refine fkN ?_ ?_ | refine fkM ?_ ?_) <;> intro h) | refine MvQ.stay ?_)
  · refine again0 (k + 1, max a (l.getD k 0)) ⟨by simp only; omega, ?_⟩ (by simp only; omega) (by ((first | refine qen ?_ | refine qvs ?_ | refine qeq ?_ | refine qst ?_ | refine qv ?_ | refine qc ?_ | refine qe ?_ | refine qcs ?_ | skip); (repeat' first | exact rfl | (refine qS ?_; constructor))))
    rw [he]; exact mxL_drop a l k (by omega)
  · (refine rqK rfl ?_; (repeat' first | exact rfl | (refine qS ?_; constructor)))
    rw [he, List.drop_of_length_le (by omega)]; rfl
/-- Whether an index of a slice of numbers holds a number that is at least so great. -/
theorem C53 {m n : Int} : PFD Try.prog 53 [vi .i64 m, .c (.rp [dI n])] (vbl (decide (n ≤ m))) := by
  refine pi1 fn53 ?_
  (repeat' first | (refine Owe.same ?_; first | refine Owe.o ?_ | refine Owe.mk ?_ ?_) | (refine Fork.same ?_; (first | refine fkD ?_ ?_ | refine fkN ?_ ?_ | refine fkM ?_ ?_) <;> intro h) | refine MvQ.stay ?_)
  (refine rqK rfl ?_; (repeat' first | exact rfl | (refine qS ?_; constructor)))
theorem C83 {g : FuncId} {rows : List (List D)} {f : Int → Bool} (hg : ∀ x : Int, PFD Try.prog g (vi .i64 x :: rows.map fun r => .c (.rp r)) (vbl (f x))) {l : List Int} : l.length ≤ 1000000 → PFD Try.prog 83 [.c (ints l), .c (.fnR g rows)] (vi .i64 (idxI f 0 l)) := fun hl => by
  refine pi1 fn83 ?_
  (repeat' first | (refine Owe.same ?_; first | refine Owe.o ?_ | refine Owe.mk ?_ ?_) | (refine Fork.same ?_; (first | refine fkD ?_ ?_ | refine fkN ?_ ?_ | refine fkM ?_ ?_) <;> intro h) | refine MvQ.stay ?_)
  refine Sat.lp0 (fun k : Nat => [(8, vi .i64 k), (7, vi .i64 l.length), (6, .c (ints l)), (0, .c (ints l)), (1, .c (.fnR g rows))]) (fun k => k ≤ l.length ∧ idxI f 0 l = idxI f k (l.drop k)) (fun k => l.length - k) 0 ⟨Nat.zero_le _, rfl⟩ (by ((first | refine qen ?_ | refine qvs ?_ | refine qeq ?_ | refine qst ?_ | refine qv ?_ | refine qc ?_ | refine qe ?_ | refine qcs ?_ | skip); (repeat' first | exact rfl | (refine qS ?_; constructor)))) ?_
  intro k hk
  (repeat' first | (refine Owe.same ?_; first | refine Owe.o ?_ | refine Owe.mk ?_ ?_) | (refine Fork.same ?_; (first | refine fkD ?_ ?_ | refine fkN ?_ ?_ | refine fkM ?_ ?_) <;> intro h) | ((first | refine OpsL.same ?_ | refine OpsDL.same ?_); first | refine pR (hg _) rfl rfl ?_) | refine MvQ.stay ?_)
  · have e := idxI_drop f 0 l k (by omega)
    have h : f (l.getD k 0) = true := h
    rw [if_pos h, ← hk.2] at e
    (refine rqK rfl ?_; (repeat' first | exact rfl | (refine qS ?_; constructor))); rw [e]
  · have e := idxI_drop f 0 l k (by omega)
    have h : f (l.getD k 0) = false := h
    rw [if_neg (by rw [h]; decide), ← hk.2] at e
    exact again0 (k + 1) ⟨by omega, e⟩ (by omega) (by ((first | refine qen ?_ | refine qvs ?_ | refine qeq ?_ | refine qst ?_ | refine qv ?_ | refine qc ?_ | refine qe ?_ | refine qcs ?_ | skip); (repeat' first | exact rfl | (refine qS ?_; constructor))))
  · have e : idxI f 0 l = -1 := by rw [hk.2, List.drop_of_length_le (by omega)]; rfl
    (refine rqK rfl ?_; (repeat' first | exact rfl | (refine qS ?_; constructor))); rw [e]
theorem C52 {g : FuncId} {rows : List (List D)} {f : Int → Bool} (hg : ∀ x : Int, PFD Try.prog g (vi .i64 x :: rows.map fun r => .c (.rp r)) (vbl (f x))) {l : List Int} : l.length ≤ 1000000 → PFD Try.prog 52 [.c (ints l), .c (.fnR g rows)] (vbl (l.any f)) := fun hl => by
  refine pi1 fn52 ?_
  (repeat' first | (refine Owe.same ?_; first | refine Owe.o ?_ | refine Owe.mk ?_ ?_) | (refine Fork.same ?_; (first | refine fkD ?_ ?_ | refine fkN ?_ ?_ | refine fkM ?_ ?_) <;> intro h) | ((first | refine OpsL.same ?_ | refine OpsDL.same ?_); first | refine pK (C83 hg hl) rfl rfl ?_) | refine MvQ.stay ?_)
  (refine rqK rfl ?_; (repeat' first | exact rfl | (refine qS ?_; constructor)))
  exact idxI_any f l 0 (Int.le_refl _)
end Go.Pw

set_option linter.unusedSimpArgs false
namespace Go.Pw
set_option maxRecDepth 2000
open Go Go.Proofs A1 A2 A3 A4
theorem fst0 {a : Int} {l : List Int} : fstE (a :: l) = 0 ↔ a = 0 ∧ fstE l = 0 := by
  simp only [fstE]
  constructor
  · intro h
    split at h
    · exact ⟨by assumption, h⟩
    · exact absurd h (by assumption)
  · rintro ⟨rfl, h⟩; rw [if_pos rfl]; exact h
theorem unl0 {p : Prop} [Decidable p] {e : Int} (he : e ≠ 0) : unl p e = 0 ↔ p := by rw [unl_eq]; split <;> simp_all
theorem unb0 {b : Bool} {e : Int} (he : e ≠ 0) : unb b e = 0 ↔ b = true := by cases b <;> simp [unb, he]
theorem fst_nil : fstE [] = 0 := rfl
theorem smE_ok {m : Int} {l : List Pr} : smE m l = 0 ↔ (0 < l.length ∧ (l.length : Int) ≤ m) ∧ ∀ i, i < l.length → pB 1000 (l.getD i (0, 0)) := by
  simp only [smE, cntE, fst0, fst_nil, and_true, unl0 (show (10 : Int) ≠ 0 by decide), unl0 (show (8 : Int) ≠ 0 by decide), unb0 (show (2 : Int) ≠ 0 by decide), Bool.not_eq_true', List.any_eq_false, decide_eq_true_eq, Decidable.not_not]
  constructor
  · rintro ⟨⟨h1, h2⟩, h3⟩
    exact ⟨⟨by omega, h2⟩, fun i hi => h3 _ (getD_mem _ hi)⟩
  · rintro ⟨⟨h1, h2⟩, h3⟩
    refine ⟨⟨by omega, h2⟩, fun x hx => ?_⟩
    obtain ⟨i, hi, rfl⟩ := List.getElem_of_mem hx
    have := h3 i hi
    rwa [List.getD_eq_getElem?_getD, List.getElem?_eq_getElem hi] at this
theorem osE_ok {T S : List Pr} {sh : Nat} (h : osE T S = 0) (hs : sh + T.length ≤ S.length) : SmOk T S sh ∧ 0 < T.length ∧ S.length ≤ 40 := by
  rw [osE, fst0, fst0] at h
  obtain ⟨h1, h2, _⟩ := h
  rw [smE_ok] at h1 h2
  exact ⟨⟨by omega, hs, h1.2, h2.2⟩, by omega, by omega⟩
def maE (T S : List Pr) (sh : Int) : Int := fstE [osE T S, unl (0 ≤ sh ∧ sh ≤ (S.length : Int) - T.length) 6]
theorem maE_ok {T S : List Pr} {sh : Int} (h : maE T S sh = 0) : ∃ s : Nat, sh = s ∧ SmOk T S s := by
  rw [maE, fst0, fst0] at h
  obtain ⟨h1, h2, _⟩ := h
  rw [unl0 (by decide)] at h2
  exact ⟨sh.toNat, by omega, (osE_ok h1 (by omega)).1⟩
theorem C13 {T S : List Pr} {sh : Int} : (T.length ≤ 1000000 ∧ S.length ≤ 1000000) → PFD Try.prog 13 [.c (prs T), .c (prs S), vi .i64 sh] (.tup [pr (if maE T S sh = 0 then mt T S sh.toNat T.length else (0, 0)), vi .i64 (maE T S sh)]) := fun ⟨hT, hS⟩ => by
  by_cases h0 : maE T S sh = 0
  · rw [if_pos h0]
    obtain ⟨s, rfl, hO⟩ := maE_ok h0
    have hm := hO.m
    have hR := mt_R hO
    refine pi2 fn13 ?_
    (repeat' first | (refine Owe.same ?_; first | refine Owe.o ?_ | refine Owe.mk ?_ ?_) | (refine Fork.same ?_; (first | refine fkD ?_ ?_ | refine fkN ?_ ?_ | refine fkM ?_ ?_) <;> intro h) | ((first | refine OpsL.same ?_ | refine OpsDL.same ?_); first | refine pK C48 rfl rfl ?_ | refine pK C50 rfl rfl ?_ | refine pK C49 rfl rfl ?_ | refine pK C47 rfl rfl ?_) | refine MvQ.stay ?_)
    · exact absurd h0 h
    have c51 := C51 (T := T) (S := S) (sh := s) (n := S.length - s) ⟨hO, by omega⟩
    (repeat' first | (refine Owe.same ?_; first | refine Owe.o ?_ | refine Owe.mk ?_ ?_) | (refine Fork.same ?_; (first | refine fkD ?_ ?_ | refine fkN ?_ ?_ | refine fkM ?_ ?_) <;> intro h) | ((first | refine OpsL.same ?_ | refine OpsDL.same ?_); first | refine pK c51 rfl rfl ?_) | refine MvQ.stay ?_)
    (refine rqK rfl ?_; (repeat' first | exact rfl | (refine qS ?_; constructor)))
    exact h0.symm
  · rw [if_neg h0]
    refine pi2 fn13 ?_
    (repeat' first | (refine Owe.same ?_; first | refine Owe.o ?_ | refine Owe.mk ?_ ?_) | (refine Fork.same ?_; (first | refine fkD ?_ ?_ | refine fkN ?_ ?_ | refine fkM ?_ ?_) <;> intro h) | ((first | refine OpsL.same ?_ | refine OpsDL.same ?_); first | refine pK C48 rfl rfl ?_ | refine pK C50 rfl rfl ?_ | refine pK C49 rfl rfl ?_ | refine pK C47 rfl rfl ?_) | refine MvQ.stay ?_)
    · (refine rqK rfl ?_; (repeat' first | exact rfl | (refine qS ?_; constructor)))
    · exact absurd h h0
/-- The power of a match. -/
abbrev pwF (T S : List Pr) (s : Nat) : Int := gNorm (mt T S s T.length)
def isEB (lim : Int) (p : Nat → Int) (m n s : Nat) : Bool :=
  decide (lim ≤ p s) && (List.range n).all fun o => !(decide (o < s ∧ s - o < m ∧ p s ≤ p o) || decide (s < o ∧ o - s < m ∧ p s < p o))
theorem isEB_iff {lim : Int} {p : Nat → Int} {m n s : Nat} : isEB lim p m n s = true ↔ lim ≤ p s ∧ ∀ o, o < n → ¬ (o < s ∧ s - o < m ∧ p s ≤ p o) ∧ ¬ (s < o ∧ o - s < m ∧ p s < p o) := by
  simp only [isEB, Bool.and_eq_true, decide_eq_true_eq, List.all_eq_true, List.mem_range, Bool.not_eq_true', Bool.or_eq_false_iff, decide_eq_false_iff_not]
abbrev pwL (T S : List Pr) (n : Nat) : List Int := (List.range n).map (pwF T S)
theorem pwL_get {T S : List Pr} {n i : Nat} (h : i < n) : (pwL T S n).getD i 0 = pwF T S i := by
  simp [pwL, List.getD_eq_getElem?_getD, h]
/-- The test of a shift, as the program makes it. -/
theorem isEB_prog {lim : Int} {T S : List Pr} {m n s : Nat} (hm : 0 < m) (hs : s < n) :
    (decide (lim ≤ pwF T S s) && !(((pwL T S n).take s).drop (s + 1 - m)).any (fun x => decide (pwF T S s ≤ x)) && decide (mxL ((((pwL T S n).take (min n (s + m))).drop s).getD 0 0) ((((pwL T S n).take (min n (s + m))).drop s).drop 1) = pwF T S s)) = isEB lim (pwF T S) m n s := by
  have hlen : (pwL T S n).length = n := by simp [pwL]
  have hb : (((pwL T S n).take s).drop (s + 1 - m)).any (fun x => decide (pwF T S s ≤ x)) = false ↔ ∀ o, o < n → ¬ (o < s ∧ s - o < m ∧ pwF T S s ≤ pwF T S o) := by
    simp only [List.any_eq_false, decide_eq_true_eq]
    constructor
    · rintro h o ho ⟨h1, h2, h3⟩
      refine h (pwF T S o) ?_ h3
      refine List.mem_iff_getElem?.2 ⟨o - (s + 1 - m), ?_⟩
      rw [List.getElem?_drop, List.getElem?_take, if_pos (by omega), show s + 1 - m + (o - (s + 1 - m)) = o by omega]
      simp [pwL, ho]
    · intro h x hx h3
      obtain ⟨i, hi⟩ := List.mem_iff_getElem?.1 hx
      rw [List.getElem?_drop, List.getElem?_take] at hi
      split at hi
      · rename_i hlt
        simp only [pwL, List.getElem?_map, List.getElem?_range (show s + 1 - m + i < n by omega), Option.map_some, Option.some.injEq] at hi
        subst hi
        exact h (s + 1 - m + i) (by omega) ⟨by omega, by omega, h3⟩
      · cases hi
  have h0 : (((pwL T S n).take (min n (s + m))).drop s).getD 0 0 = pwF T S s := by
    rw [getD_drop', getD_take' (by omega), Nat.add_zero, pwL_get hs]
  have hmx : mxL ((((pwL T S n).take (min n (s + m))).drop s).getD 0 0) ((((pwL T S n).take (min n (s + m))).drop s).drop 1) = pwF T S s ↔ ∀ o, o < n → ¬ (s < o ∧ o - s < m ∧ pwF T S s < pwF T S o) := by
    rw [h0]
    have hle : mxL (pwF T S s) ((((pwL T S n).take (min n (s + m))).drop s).drop 1) = pwF T S s ↔ mxL (pwF T S s) ((((pwL T S n).take (min n (s + m))).drop s).drop 1) ≤ pwF T S s :=
      ⟨fun h => Int.le_of_eq h, fun h => Int.le_antisymm h le_mxL⟩
    rw [hle, mxL_le]
    constructor
    · rintro ⟨_, h⟩ o ho ⟨h1, h2, h3⟩
      have := h (pwF T S o) (List.mem_iff_getElem?.2 ⟨o - s - 1, by
        rw [List.getElem?_drop, List.getElem?_drop, List.getElem?_take, if_pos (by omega), show s + (1 + (o - s - 1)) = o by omega]
        simp [pwL, ho]⟩)
      omega
    · intro h
      refine ⟨Int.le_refl _, fun x hx => ?_⟩
      obtain ⟨i, hi⟩ := List.mem_iff_getElem?.1 hx
      rw [List.getElem?_drop, List.getElem?_drop, List.getElem?_take] at hi
      split at hi
      · rename_i hlt
        simp only [pwL, List.getElem?_map, List.getElem?_range (show s + (1 + i) < n by omega), Option.map_some, Option.some.injEq] at hi
        subst hi
        have := h (s + (1 + i)) (by omega)
        omega
      · cases hi
  rw [Bool.eq_iff_iff, isEB_iff]
  simp only [Bool.and_eq_true, decide_eq_true_eq, Bool.not_eq_true', hb, hmx]
  constructor
  · rintro ⟨⟨h1, h2⟩, h3⟩; exact ⟨h1, fun o ho => ⟨h2 o ho, h3 o ho⟩⟩
  · rintro ⟨h1, h2⟩; exact ⟨⟨h1, fun o ho => (h2 o ho).1⟩, fun o ho => (h2 o ho).2⟩
end Go.Pw

set_option linter.unusedSimpArgs false
namespace Go.Pw
set_option maxRecDepth 2000
open Go Go.Proofs A1 A2 A3 A4
def ecE (T S : List Pr) (lim : Int) : Int := fstE [osE T S, unl ((T.length : Int) ≤ S.length) 10, unl (1 ≤ lim ∧ lim ≤ 1000000000000000) 2]
theorem ecE_ok {T S : List Pr} {lim : Int} (h : ecE T S lim = 0) : T.length ≤ S.length ∧ 0 < T.length ∧ S.length ≤ 40 ∧ (1 ≤ lim ∧ lim ≤ 1000000000000000) ∧ ∀ s, s + T.length ≤ S.length → SmOk T S s := by
  rw [ecE, fst0, fst0, fst0] at h
  obtain ⟨h1, h2, h3, _⟩ := h
  rw [unl0 (by decide)] at h2 h3
  obtain ⟨_, h5, h6⟩ := osE_ok (sh := 0) h1 (by omega)
  exact ⟨by omega, h5, h6, h3, fun s hs => (osE_ok h1 hs).1⟩
/-- All echoes. -/
abbrev ecL (T S : List Pr) (lim : Int) : List Int := fltL (isEB lim (pwF T S) T.length (S.length - T.length + 1)) (S.length - T.length + 1)
theorem pwL_succ (T S : List Pr) (n : Nat) : pwL T S (n + 1) = pwL T S n ++ [pwF T S n] := by simp [pwL, List.range_succ]
theorem pwL_len (T S : List Pr) (n : Nat) : (pwL T S n).length = n := by simp [pwL]
set_option maxHeartbeats 1000000 in
theorem C15 {T S : List Pr} {lim : Int} : (T.length ≤ 1000000 ∧ S.length ≤ 1000000) → PFD Try.prog 15 [.c (prs T), .c (prs S), vi .i64 lim] (.tup [.c (ints (if ecE T S lim = 0 then ecL T S lim else [])), vi .i64 (ecE T S lim)]) := fun ⟨hT, hS⟩ => by
  by_cases h0 : ecE T S lim = 0
  · rw [if_pos h0]
    obtain ⟨hTS, hT0, hS40, hlim, hO⟩ := ecE_ok h0
    obtain ⟨n, hn⟩ : ∃ n, S.length - T.length + 1 = n := ⟨_, rfl⟩
    rw [show ecL T S lim = fltL (isEB lim (pwF T S) T.length n) n by rw [ecL, hn]]
    refine pi2 fn15 ?_
    (repeat' first | (refine Owe.same ?_; first | refine Owe.o ?_ | refine Owe.mk ?_ ?_) | (refine Fork.same ?_; (first | refine fkD ?_ ?_ | refine fkN ?_ ?_ | refine fkM ?_ ?_) <;> intro h) | ((first | refine OpsL.same ?_ | refine OpsDL.same ?_); first | refine pK C48 rfl rfl ?_ | refine pK C50 rfl rfl ?_ | refine pK C49 rfl rfl ?_ | refine pK C47 rfl rfl ?_) | refine MvQ.stay ?_)
    · exact absurd h0 h
    refine Sat.nilS 9 3 1 (fun i => r1 (([] : List Int).getD i 0)) rfl ?_
    refine Sat.lp (fun k : Nat => ⟨[(42, vi .i64 k), (41, vi .i64 (n : Int)), (0, .c (prs T)), (1, .c (prs S)), (2, vi .i64 lim), (9, .c (.ms 0 (pwL T S k).length))], [(0, rowv 3 1 r1 0 (pwL T S k))], 1⟩)
      (fun k => k ≤ n) (fun k => n - k) 0 [0] (Nat.zero_le _) ?_ ?_
    · (refine qis ?_ ?_ <;> (repeat' first | exact rfl | (refine qS ?_; constructor)))
      omega
    · intro k hk
      have hlen := pwL_len T S k
      refine Fork.dec (fun hlt => ?_) (fun hlt => ?_)
      · have hlt : k < n := by omega
        have hOk := hO k (by omega)
        have c51 := C51 (T := T) (S := S) (sh := k) (n := S.length - k) ⟨hOk, by omega⟩
        have hR := mt_R hOk
        have q1 := mbd hR.1 hR.1
        have q2 := mbd hR.2 hR.2
        (repeat' first | (refine Owe.same ?_; first | refine Owe.o ?_ | refine Owe.mk ?_ ?_) | (refine Fork.same ?_; (first | refine fkD ?_ ?_ | refine fkN ?_ ?_ | refine fkM ?_ ?_) <;> intro h) | ((first | refine OpsL.same ?_ | refine OpsDL.same ?_); first | refine pK c51 rfl rfl ?_) | refine MvQ.stay ?_)
        refine again (k + 1) [1] hlt (by omega) ?_
        (refine qis ?_ ?_ <;> (repeat' first | exact rfl | (refine qS ?_; constructor)))
        · rw [pwL_len, pwL_len]; rfl
        · exact pwL_succ T S k
      · have : k = n := by omega
        subst this
        (repeat' first | (refine Owe.same ?_; first | refine Owe.o ?_ | refine Owe.mk ?_ ?_) | (refine Fork.same ?_; (first | refine fkD ?_ ?_ | refine fkN ?_ ?_ | refine fkM ?_ ?_) <;> intro h) | refine MvQ.stay ?_)
        refine SatL.frz 9 _ rfl rfl (Nat.le_refl _) ?_
        refine SatL.frz 67 _ rfl rfl (Nat.le_refl _) ?_
        refine Sat.nilS 14 3 1 (fun i => r1 (([] : List Int).getD i 0)) rfl ?_
        refine Sat.lp (fun j : Nat => ⟨[(69, vi .i64 j), (68, vi .i64 (k : Int)), (67, .c (ints (pwL T S k))), (9, .c (ints (pwL T S k))), (0, .c (prs T)), (2, vi .i64 lim), (14, .c (.ms 0 (fltL (isEB lim (pwF T S) T.length k) j).length))], [(0, rowv 3 1 r1 0 (fltL (isEB lim (pwF T S) T.length k) j))], 1⟩)
          (fun j => j ≤ k) (fun j => k - j) 0 [1] (Nat.zero_le _) ?_ ?_
        · (refine qis ?_ ?_ <;> (repeat' first | exact rfl | (refine qS ?_; constructor)))
          omega
        · intro j hj
          have hfl := fltL_len (isEB lim (pwF T S) T.length k) j
          have hfs := fltL_succ (isEB lim (pwF T S) T.length k) j
          refine Fork.dec (fun hlt => ?_) (fun hlt => ?_)
          · have hlt : j < k := by omega
            have e := isEB_prog (lim := lim) (T := T) (S := S) hT0 hlt
            have hg := pwL_get (T := T) (S := S) hlt
            have c52 : ∀ l : List Int, l.length ≤ 1000000 → ∀ p : Int, PFD Try.prog 52 [.c (ints l), .c (.fnR 53 [[dI p]])] (vbl (l.any fun x => decide (p ≤ x))) := fun l hl p => C52 (fun x => C53 (m := x) (n := p)) hl
            (repeat' first | (refine Owe.same ?_; first | refine Owe.o ?_ | refine Owe.mk ?_ ?_) | (refine Fork.same ?_; (first | refine fkD ?_ ?_ | refine fkN ?_ ?_ | refine fkM ?_ ?_) <;> intro h) | refine MvQ.stay ?_)
            refine SatL.as 17 (.c (ints (((pwL T S k).take j).drop (j + 1 - T.length)))) ?_ ?_
            · have e1 : (Int.toNat (max 0 ((j : Int) - T.length + 1))) = j + 1 - T.length := by omega
              have := VEq.cut (s := 1) (row := r1) (d := (0 : Int)) (l := pwL T S k) (m := ((pwL T S k).take j).drop (j + 1 - T.length)) (k := Int.toNat (max 0 ((j : Int) - T.length + 1))) (j := (j : Int).toNat) (by omega) (by omega) (by rw [e1]; rfl)
              exact this
            refine SatL.as 18 (.c (ints (((pwL T S k).take (min k (j + T.length))).drop j))) ?_ ?_
            · have e1 : (Int.toNat (min ((pwL T S k).length : Int) ((j : Int) + T.length))) = min k (j + T.length) := by omega
              have := VEq.cut (s := 1) (row := r1) (d := (0 : Int)) (l := pwL T S k) (m := ((pwL T S k).take (min k (j + T.length))).drop j) (k := (j : Int).toNat) (j := Int.toNat (min ((pwL T S k).length : Int) ((j : Int) + T.length))) (by omega) (by omega) (by rw [e1]; rfl)
              exact this
            refine SatL.frB 1 [16] rfl rfl ?_
            refine SatL.go ?_
            have c52' := c52 (((pwL T S k).take j).drop (j + 1 - T.length)) (by simp; omega) ((pwL T S k).getD (j : Int).toNat 0)
            have c54' := C54 (l := ((pwL T S k).take (min k (j + T.length))).drop j) (by simp only [List.length_drop, List.length_take]; omega)
            have hg' : (pwL T S k).getD (j : Int).toNat 0 = pwF T S j := hg
            (repeat' first | (refine Owe.same ?_; first | refine Owe.o ?_ | refine Owe.mk ?_ ?_) | (refine Fork.same ?_; (first | refine fkD ?_ ?_ | refine fkN ?_ ?_ | refine fkM ?_ ?_) <;> intro h) | ((first | refine OpsL.same ?_ | refine OpsDL.same ?_); first | refine pK c52' rfl rfl ?_ | refine pK c54' rfl rfl ?_) | refine MvQ.stay ?_)
            · rename_i h1 h2
              rw [hg'] at h h1 h2
              rw [decide_eq_true h1, h2, decide_eq_true h] at e
              rw [if_pos (by rw [← e]; rfl)] at hfs
              refine again (j + 1) [15] hlt (by omega) ?_
              (refine qis ?_ ?_ <;> (repeat' first | exact rfl | (refine qS ?_; constructor)))
              · rw [hfs]; simp
              · exact hfs
            · rename_i h1 h2
              rw [hg'] at h h1 h2
              rw [decide_eq_true h1, h2, decide_eq_false h] at e
              rw [if_neg (by rw [← e]; simp)] at hfs
              refine again (j + 1) [0] hlt (by omega) ?_
              (refine qis ?_ ?_ <;> (repeat' first | exact rfl | (refine qS ?_; constructor)))
              · rw [hfs]
              · rw [hfs]
            · rename_i h1
              rw [hg'] at h h1
              rw [decide_eq_true h1, h] at e
              rw [if_neg (by rw [← e]; simp)] at hfs
              refine again (j + 1) [0] hlt (by omega) ?_
              (refine qis ?_ ?_ <;> (repeat' first | exact rfl | (refine qS ?_; constructor)))
              · rw [hfs]
              · rw [hfs]
            · rw [hg'] at h
              rw [decide_eq_false h] at e
              rw [if_neg (by rw [← e]; simp)] at hfs
              refine again (j + 1) [0] hlt (by omega) ?_
              (refine qis ?_ ?_ <;> (repeat' first | exact rfl | (refine qS ?_; constructor)))
              · rw [hfs]
              · rw [hfs]
          · have : j = k := by omega
            subst this
            (repeat' first | (refine Owe.same ?_; first | refine Owe.o ?_ | refine Owe.mk ?_ ?_) | (refine Fork.same ?_; (first | refine fkD ?_ ?_ | refine fkN ?_ ?_ | refine fkM ?_ ?_) <;> intro h) | refine MvQ.stay ?_)
            refine rqF 0 _ rfl rfl rfl ?_; (repeat' first | exact rfl | (refine qS ?_; constructor))
            exact h0.symm
  · rw [if_neg h0]
    refine pi2 fn15 ?_
    (repeat' first | (refine Owe.same ?_; first | refine Owe.o ?_ | refine Owe.mk ?_ ?_) | (refine Fork.same ?_; (first | refine fkD ?_ ?_ | refine fkN ?_ ?_ | refine fkM ?_ ?_) <;> intro h) | ((first | refine OpsL.same ?_ | refine OpsDL.same ?_); first | refine pK C48 rfl rfl ?_ | refine pK C50 rfl rfl ?_ | refine pK C49 rfl rfl ?_ | refine pK C47 rfl rfl ?_) | refine MvQ.stay ?_)
    · (refine rqK rfl ?_; (repeat' first | exact rfl | (refine qS ?_; constructor)))
    · exact absurd h h0
end Go.Pw

set_option linter.unusedSimpArgs false
namespace Go.Pw
set_option maxRecDepth 2000
open Go Go.Proofs A1 A2 A3 A4
theorem C117 {n : Int} : PFD Try.prog 117 [vi .i64 n] (vbl false) := by
  refine pi1 fn117 ?_
  (repeat' first | (refine Owe.same ?_; first | refine Owe.o ?_ | refine Owe.mk ?_ ?_) | (refine Fork.same ?_; (first | refine fkD ?_ ?_ | refine fkN ?_ ?_ | refine fkM ?_ ?_) <;> intro h) | refine MvQ.stay ?_)
  (refine rqK rfl ?_; (repeat' first | exact rfl | (refine qS ?_; constructor)))
  simp
theorem C123 {a b : Int} : PFD Try.prog 123 [vi .i64 a, vi .i64 b] (vbl (decide (a < b))) := by
  refine pi1 fn123 ?_
  (repeat' first | (refine Owe.same ?_; first | refine Owe.o ?_ | refine Owe.mk ?_ ?_) | (refine Fork.same ?_; (first | refine fkY ?_ | refine fkF ?_ | ((first | refine fkD ?_ ?_ | refine fkN ?_ ?_ | refine fkM ?_ ?_) <;> intro h))) | ((first | refine OpsL.same ?_ | refine OpsDL.same ?_); first | refine pK C117 rfl rfl ?_) | refine MvQ.stay ?_)
  (refine rqK rfl ?_; (repeat' first | exact rfl | (refine qS ?_; constructor)))
def cmpI (a b : Int) : Int := if a < b then -1 else if b < a then 1 else 0
theorem C90 {a b : Int} : PFD Try.prog 90 [vi .i64 a, vi .i64 b] (vi .i64 (cmpI a b)) := by
  refine pi1 fn90 ?_
  (repeat' first | (refine Owe.same ?_; first | refine Owe.o ?_ | refine Owe.mk ?_ ?_) | (refine Fork.same ?_; (first | refine fkY ?_ | refine fkF ?_ | ((first | refine fkD ?_ ?_ | refine fkN ?_ ?_ | refine fkM ?_ ?_) <;> intro h))) | ((first | refine OpsL.same ?_ | refine OpsDL.same ?_); first | refine pK C117 rfl rfl ?_) | refine MvQ.stay ?_)
  · (refine rqK rfl ?_; (repeat' first | exact rfl | (refine qS ?_; constructor))); rw [cmpI, if_pos h]
  · rename_i h1
    (refine rqK rfl ?_; (repeat' first | exact rfl | (refine qS ?_; constructor))); rw [cmpI, if_neg h1, if_pos h]
  · rename_i h1
    (refine rqK rfl ?_; (repeat' first | exact rfl | (refine qS ?_; constructor))); rw [cmpI, if_neg h1, if_neg h]
theorem C89 {l : List Int} : l.length < 4611686018427387904 → PFD Try.prog 89 [.c (ints l)] (vi .i64 (fstE l)) := fun hl => by
  refine pi1 fn89 ?_
  (repeat' first | (refine Owe.same ?_; first | refine Owe.o ?_ | refine Owe.mk ?_ ?_) | (refine Fork.same ?_; (first | refine fkD ?_ ?_ | refine fkN ?_ ?_ | refine fkM ?_ ?_) <;> intro h) | refine MvQ.stay ?_)
  refine Sat.lp0 (fun k : Nat => [(8, vi .i64 k), (7, vi .i64 l.length), (6, .c (ints l)), (3, vi .i64 0)]) (fun k => k ≤ l.length ∧ fstE l = fstE (l.drop k)) (fun k => l.length - k) 0 ⟨Nat.zero_le _, rfl⟩ (by ((first | refine qen ?_ | refine qvs ?_ | refine qeq ?_ | refine qst ?_ | refine qv ?_ | refine qc ?_ | refine qe ?_ | refine qcs ?_ | skip); (repeat' first | exact rfl | (refine qS ?_; constructor)))) ?_
  intro k hk
  (repeat' first | (refine Owe.same ?_; first | refine Owe.o ?_ | refine Owe.mk ?_ ?_) | (refine Fork.same ?_; (first | refine fkD ?_ ?_ | refine fkN ?_ ?_ | refine fkM ?_ ?_) <;> intro h) | refine MvQ.stay ?_)
  · simp only [Int.toNat_natCast] at h
    (refine rqK rfl ?_; (repeat' first | exact rfl | (refine qS ?_; constructor)))
    rw [hk.2, fstE_drop l k (by omega), if_neg h, Int.toNat_natCast]
  · simp only [Int.toNat_natCast] at h
    refine again0 (k + 1) ⟨by omega, ?_⟩ (by omega) (by ((first | refine qen ?_ | refine qvs ?_ | refine qeq ?_ | refine qst ?_ | refine qv ?_ | refine qc ?_ | refine qe ?_ | refine qcs ?_ | skip); (repeat' first | exact rfl | (refine qS ?_; constructor))))
    rw [hk.2, fstE_drop l k (by omega), if_pos h]
  · (refine rqK rfl ?_; (repeat' first | exact rfl | (refine qS ?_; constructor)))
    rw [hk.2, List.drop_of_length_le (by omega)]; rfl
/-- Lists of numbers compared. -/
def cmpL : List Int → List Int → Int
  | [], [] => 0
  | [], _ :: _ => -1
  | _ :: _, [] => 1
  | x :: l, y :: m => if cmpI x y = 0 then cmpL l m else cmpI x y
theorem cmpL_drop (l m : List Int) (k : Nat) (h1 : k < l.length) (h2 : k < m.length) : cmpL (l.drop k) (m.drop k) = if cmpI (l.getD k 0) (m.getD k 0) = 0 then cmpL (l.drop (k + 1)) (m.drop (k + 1)) else cmpI (l.getD k 0) (m.getD k 0) := by
  rw [List.drop_eq_getElem_cons h1, List.drop_eq_getElem_cons h2, cmpL, List.getD_eq_getElem?_getD, List.getElem?_eq_getElem h1, List.getD_eq_getElem?_getD, List.getElem?_eq_getElem h2]
  rfl
theorem C91 {l m : List Int} : (l.length ≤ 1000000 ∧ m.length ≤ 1000000) → PFD Try.prog 91 [.c (ints l), .c (ints m)] (vi .i64 (cmpL l m)) := fun ⟨hl, hm⟩ => by
  refine pi1 fn91 ?_
  (repeat' first | (refine Owe.same ?_; first | refine Owe.o ?_ | refine Owe.mk ?_ ?_) | (refine Fork.same ?_; (first | refine fkD ?_ ?_ | refine fkN ?_ ?_ | refine fkM ?_ ?_) <;> intro h) | refine MvQ.stay ?_)
  refine Sat.lp0 (fun k : Nat => [(11, vi .i64 k), (10, vi .i64 l.length), (9, .c (ints l)), (0, .c (ints l)), (1, .c (ints m))]) (fun k => k ≤ l.length ∧ k ≤ m.length ∧ cmpL l m = cmpL (l.drop k) (m.drop k)) (fun k => l.length - k) 0 ⟨Nat.zero_le _, Nat.zero_le _, rfl⟩ (by ((first | refine qen ?_ | refine qvs ?_ | refine qeq ?_ | refine qst ?_ | refine qv ?_ | refine qc ?_ | refine qe ?_ | refine qcs ?_ | skip); (repeat' first | exact rfl | (refine qS ?_; constructor)))) ?_
  intro k ⟨hk, hk2, he⟩
  (repeat' first | (refine Owe.same ?_; first | refine Owe.o ?_ | refine Owe.mk ?_ ?_) | (refine Fork.same ?_; (first | refine fkD ?_ ?_ | refine fkN ?_ ?_ | refine fkM ?_ ?_) <;> intro h) | ((first | refine OpsL.same ?_ | refine OpsDL.same ?_); first | refine pK C90 rfl rfl ?_) | refine MvQ.stay ?_)
  · (refine rqK rfl ?_; (repeat' first | exact rfl | (refine qS ?_; constructor)))
    rw [he, List.drop_of_length_le (show m.length ≤ k by omega), List.drop_eq_getElem_cons (show k < l.length by omega)]; rfl
  · have e := cmpL_drop l m k (by omega) (by omega)
    have h : ¬ cmpI (l.getD k 0) (m.getD k 0) = 0 := h
    rw [if_neg h] at e
    (refine rqK rfl ?_; (repeat' first | exact rfl | (refine qS ?_; constructor))); rw [he, e]; rfl
  · have e := cmpL_drop l m k (by omega) (by omega)
    have h : cmpI (l.getD k 0) (m.getD k 0) = 0 := h
    rw [if_pos h] at e
    exact again0 (k + 1) ⟨by omega, by omega, by rw [he, e]⟩ (by omega) (by ((first | refine qen ?_ | refine qvs ?_ | refine qeq ?_ | refine qst ?_ | refine qv ?_ | refine qc ?_ | refine qe ?_ | refine qcs ?_ | skip); (repeat' first | exact rfl | (refine qS ?_; constructor))))
  · (refine rqK rfl ?_; (repeat' first | exact rfl | (refine qS ?_; constructor)))
    rw [he, List.drop_of_length_le (show l.length ≤ k by omega), List.drop_eq_getElem_cons (show k < m.length by omega)]; rfl
  · (refine rqK rfl ?_; (repeat' first | exact rfl | (refine qS ?_; constructor)))
    rw [he, List.drop_of_length_le (show l.length ≤ k by omega), List.drop_of_length_le (show m.length ≤ k by omega)]; rfl
theorem bit_test {b i : Nat} (hb : b < 2 ^ 63) (hi : i < 64) : decide (IntKind.u64.wrap ((BitVec.ofInt IntKind.u64.bits ((b : Int).fdiv (2 ^ min (Int.toNat (i : Int)) IntKind.u64.bits)) &&& BitVec.ofInt IntKind.u64.bits 1).toNat : Nat) = 1) = b.testBit i := by
  have hbits : IntKind.u64.bits = 64 := rfl
  have e1 : (b : Int).fdiv (2 ^ min (Int.toNat (i : Int)) IntKind.u64.bits) = ((b / 2 ^ i : Nat) : Int) := by
    rw [hbits, Int.toNat_natCast, Nat.min_eq_left (by omega), Int.fdiv_eq_ediv_of_nonneg _ (Int.pow_nonneg (by decide))]
    norm_cast
  rw [e1, Nat.testBit_eq_decide_div_mod_eq]
  have hlt : b / 2 ^ i < 2 ^ 63 := by
    have := Nat.div_le_self b (2 ^ i)
    omega
  generalize b / 2 ^ i = q at hlt ⊢
  have e2 : (BitVec.ofInt IntKind.u64.bits (q : Int) &&& BitVec.ofInt IntKind.u64.bits 1).toNat = q % 2 := by
    rw [BitVec.toNat_and]
    have f1 : (BitVec.ofInt IntKind.u64.bits (q : Int)).toNat = q := by
      rw [BitVec.toNat_ofInt, hbits]; omega
    have f2 : (BitVec.ofInt IntKind.u64.bits 1).toNat = 1 := rfl
    rw [f1, f2, Nat.and_one_is_mod]
  rw [e2]
  have e3 : IntKind.u64.wrap ((q % 2 : Nat) : Int) = ((q % 2 : Nat) : Int) := by
    rcases (show q % 2 = 0 ∨ q % 2 = 1 by omega) with h | h <;> rw [h] <;> rfl
  rw [e3, Bool.eq_iff_iff, decide_eq_true_eq, decide_eq_true_eq]
  omega
/-- The numbers of a set, as bits say. -/
abbrev subL (n b : Nat) : List Int := fltL (fun i => b.testBit i) n
theorem subL_mem {n b : Nat} {x : Int} (h : x ∈ subL n b) : 0 ≤ x ∧ x < n := by
  simp only [subL, fltL, List.mem_map, List.mem_filter, List.mem_range] at h
  obtain ⟨i, ⟨h1, _⟩, rfl⟩ := h
  omega
structure BSt where
  l : List Int
  p : Int
  ok : Bool
/-- The best set among those of the first bits. -/
def bestK (c : List Int → Int × Bool) (n : Nat) : Nat → BSt
  | 0 => ⟨[], 0, false⟩
  | b + 1 => let s := bestK c n b
    let t := subL n b
    if (c t).2 = true ∧ (s.ok = false ∨ fstE [cmpI (c t).1 s.p, cmpI t.length s.l.length, cmpL t s.l] < 0) then ⟨t, (c t).1, true⟩ else s
theorem bestK_len (c : List Int → Int × Bool) (n : Nat) : ∀ b, (bestK c n b).l.length ≤ n
  | 0 => by simp [bestK]
  | b + 1 => by
    have ih := bestK_len c n b
    have := fltL_len (fun i => b.testBit i) n
    simp only [bestK]
    split
    · exact this
    · exact ih
theorem C68 {g : FuncId} {rows : List (List D)} {c : List Int → Int × Bool} {n : Nat} (hg : ∀ t : List Int, t.length ≤ 1000000 → (∀ x ∈ t, 0 ≤ x ∧ x < n) → PFD Try.prog g (.c (ints t) :: rows.map fun r => .c (.rp r)) (.tup [vi .i64 (c t).1, vbl (c t).2])) : n ≤ 20 → PFD Try.prog 68 [vi .i64 n, .c (.fnR g rows)] (.tup [.c (ints (bestK c n (2 ^ n)).l), vi .i64 (bestK c n (2 ^ n)).p, vbl (bestK c n (2 ^ n)).ok]) := fun hn => by
  have hpow : 2 ^ n ≤ 2 ^ 20 := Nat.pow_le_pow_right (by decide) hn
  obtain ⟨m, hm⟩ : ∃ m, 2 ^ n = m := ⟨_, rfl⟩
  have hp : ((2 : Int) ^ n) = (m : Int) := by rw [← hm]; norm_cast
  rw [hm] at hpow ⊢
  have e1 : IntKind.u64.wrap (1 * 2 ^ min (Int.toNat (n : Int)) IntKind.u64.bits) = (m : Int) := by
    have hb : IntKind.u64.bits = 64 := rfl
    rw [hb, Int.toNat_natCast, Nat.min_eq_left (by omega), Int.one_mul, u64_wrap, hp]
    omega
  refine pi3 fn68 ?_
  (repeat' first | (refine Owe.same ?_; first | refine Owe.o ?_ | refine Owe.mk ?_ ?_) | (refine Fork.same ?_; (first | refine fkD ?_ ?_ | refine fkN ?_ ?_ | refine fkM ?_ ?_) <;> intro h) | refine MvQ.stay ?_)
  refine Sat.lp0 (fun b : Nat => [(17, vi .u64 b), (16, vi .u64 m), (0, vi .i64 n), (1, .c (.fnR g rows)), (7, .c (ints (bestK c n b).l)), (8, vi .i64 (bestK c n b).p), (9, vbl (bestK c n b).ok)]) (fun b => b ≤ m) (fun b => m - b) 0 (Nat.zero_le _) ?_ ?_
  · ((first | refine qen ?_ | refine qvs ?_ | refine qeq ?_ | refine qst ?_ | refine qv ?_ | refine qc ?_ | refine qe ?_ | refine qcs ?_ | skip); (repeat' first | exact rfl | (refine qS ?_; constructor)))
    exact e1
  · intro b hb
    refine Fork.dec (fun hlt => ?_) (fun hlt => ?_)
    · have hlt : b < m := by omega
      (repeat' first | (refine Owe.same ?_; first | refine Owe.o ?_ | refine Owe.mk ?_ ?_) | (refine Fork.same ?_; (first | refine fkD ?_ ?_ | refine fkN ?_ ?_ | refine fkM ?_ ?_) <;> intro h) | refine MvQ.stay ?_)
      refine Sat.nilS 11 3 1 (fun i => r1 (([] : List Int).getD i 0)) rfl ?_
      refine Sat.lp (fun i : Nat => ⟨[(21, vi .i64 i), (20, vi .i64 n), (10, vi .u64 b), (11, .c (.ms 0 (fltL (fun i => b.testBit i) i).length)), (17, vi .u64 b), (16, vi .u64 m), (0, vi .i64 n), (1, .c (.fnR g rows)), (7, .c (ints (bestK c n b).l)), (8, vi .i64 (bestK c n b).p), (9, vbl (bestK c n b).ok)], [(0, rowv 3 1 r1 0 (fltL (fun i => b.testBit i) i))], 1⟩)
        (fun i => i ≤ n) (fun i => n - i) 0 [0] (Nat.zero_le _) ?_ ?_
      · (refine qis ?_ ?_ <;> (repeat' first | exact rfl | (refine qS ?_; constructor)))
      · intro i hi
        have hfl := fltL_len (fun i => b.testBit i) i
        have hfs := fltL_succ (fun i => b.testBit i) i
        refine Fork.dec (fun hli => ?_) (fun hli => ?_)
        · have hli : i < n := by omega
          have ht := bit_test (b := b) (i := i) (by omega) (by omega)
          (repeat' first | (refine Owe.same ?_; first | refine Owe.o ?_ | refine Owe.mk ?_ ?_) | (refine Fork.same ?_; (first | refine fkD ?_ ?_ | refine fkN ?_ ?_ | refine fkM ?_ ?_) <;> intro h) | refine MvQ.stay ?_)
          · have h : decide _ = true := decide_eq_true h
            rw [ht] at h
            rw [if_pos h] at hfs
            refine again (i + 1) [1] hli (by omega) ?_
            (refine qis ?_ ?_ <;> (repeat' first | exact rfl | (refine qS ?_; constructor)))
            · rw [hfs]; simp
            · exact hfs
          · have h : decide _ = false := decide_eq_false h
            rw [ht] at h
            rw [if_neg (by rw [h]; decide)] at hfs
            refine again (i + 1) [0] hli (by omega) ?_
            (refine qis ?_ ?_ <;> (repeat' first | exact rfl | (refine qS ?_; constructor)))
            · rw [hfs]
            · rw [hfs]
        · have : i = n := by omega
          subst this
          (repeat' first | (refine Owe.same ?_; first | refine Owe.o ?_ | refine Owe.mk ?_ ?_) | (refine Fork.same ?_; (first | refine fkD ?_ ?_ | refine fkN ?_ ?_ | refine fkM ?_ ?_) <;> intro h) | refine MvQ.stay ?_)
          refine OpsL.frz 11 _ rfl rfl (Nat.le_refl _) ?_
          refine OpsL.frz 36 _ rfl rfl (Nat.le_refl _) ?_
          have hgt := hg (subL i b) (by have := fltL_len (fun i => b.testBit i) i; show (fltL (fun i => b.testBit i) i).length ≤ _; omega) (fun x hx => subL_mem hx)
          have hl2 := bestK_len c i b
          (repeat' first | (refine Owe.same ?_; first | refine Owe.o ?_ | refine Owe.mk ?_ ?_) | (refine Fork.same ?_; (first | refine fkD ?_ ?_ | refine fkN ?_ ?_ | refine fkM ?_ ?_) <;> intro h) | ((first | refine OpsL.same ?_ | refine OpsDL.same ?_); first | refine pR hgt rfl rfl ?_) | refine MvQ.stay ?_)
          all_goals (repeat' first | (refine Owe.same ?_; first | refine Owe.o ?_ | refine Owe.mk ?_ ?_) | (refine Fork.same ?_; (first | refine fkD ?_ ?_ | refine fkN ?_ ?_ | refine fkM ?_ ?_) <;> intro h) | ((first | refine OpsL.same ?_ | refine OpsDL.same ?_); first | refine pK C90 rfl rfl ?_ | refine pK C91 rfl rfl ?_ | refine pK C89 rfl rfl ?_) | refine MvQ.stay ?_)
          · rename_i h1
            have e : bestK c i (b + 1) = ⟨subL i b, (c (subL i b)).1, true⟩ := by
              simp only [bestK]; rw [if_pos ⟨h1, .inl (by simpa using h)⟩]
            refine again0 (b + 1) hlt (by omega) ?_
            simp only [e]
            ((first | refine qen ?_ | refine qvs ?_ | refine qeq ?_ | refine qst ?_ | refine qv ?_ | refine qc ?_ | refine qe ?_ | refine qcs ?_ | skip); (repeat' first | exact rfl | (refine qS ?_; constructor)))
            rw [u64_wrap]; omega
          · rename_i h1 h2
            have e : bestK c i (b + 1) = ⟨subL i b, (c (subL i b)).1, true⟩ := by
              simp only [bestK]; rw [if_pos ⟨h1, .inr h⟩]
            refine again0 (b + 1) hlt (by omega) ?_
            simp only [e]
            ((first | refine qen ?_ | refine qvs ?_ | refine qeq ?_ | refine qst ?_ | refine qv ?_ | refine qc ?_ | refine qe ?_ | refine qcs ?_ | skip); (repeat' first | exact rfl | (refine qS ?_; constructor)))
            rw [u64_wrap]; omega
          · rename_i h1 h2
            have e : bestK c i (b + 1) = bestK c i b := by
              simp only [bestK]; rw [if_neg]
              rintro ⟨_, h3 | h3⟩
              · rw [h3] at h2; cases h2
              · exact h h3
            refine again0 (b + 1) hlt (by omega) ?_
            simp only [e]
            ((first | refine qen ?_ | refine qvs ?_ | refine qeq ?_ | refine qst ?_ | refine qv ?_ | refine qc ?_ | refine qe ?_ | refine qcs ?_ | skip); (repeat' first | exact rfl | (refine qS ?_; constructor)))
            rw [u64_wrap]; omega
          · have e : bestK c i (b + 1) = bestK c i b := by
              simp only [bestK]; rw [if_neg]
              rintro ⟨h3, _⟩
              rw [h] at h3; cases h3
            refine again0 (b + 1) hlt (by omega) ?_
            simp only [e]
            ((first | refine qen ?_ | refine qvs ?_ | refine qeq ?_ | refine qst ?_ | refine qv ?_ | refine qc ?_ | refine qe ?_ | refine qcs ?_ | skip); (repeat' first | exact rfl | (refine qS ?_; constructor)))
            rw [u64_wrap]; omega
    · have : b = m := by omega
      subst this
      (repeat' first | (refine Owe.same ?_; first | refine Owe.o ?_ | refine Owe.mk ?_ ?_) | (refine Fork.same ?_; (first | refine fkD ?_ ?_ | refine fkN ?_ ?_ | refine fkM ?_ ?_) <;> intro h) | refine MvQ.stay ?_)
      (refine rqK rfl ?_; (repeat' first | exact rfl | (refine qS ?_; constructor)))
end Go.Pw

set_option linter.unusedSimpArgs false
namespace Go.Pw
set_option maxRecDepth 2000
open Go Go.Proofs A1 A2 A3 A4
abbrev Dv := Int × Int × Int
abbrev tr (d : Dv) : V := .agg [int d.1, int d.2.1, int d.2.2]
/-- A device in range. -/
abbrev dvOk (d : Dv) : Prop := (0 ≤ d.1 ∧ d.1 ≤ 20) ∧ (1 ≤ d.2.1 ∧ d.2.1 ≤ 10) ∧ 0 ≤ d.2.2 ∧ d.2.2 ≤ 10
abbrev win (d : Dv) : Int := d.2.1 + d.2.2
abbrev dist (a b : Dv) : Bool := decide (max (a.1 - b.1) (-(a.1 - b.1)) ≤ 1)
theorem C97 {a b : Dv} : (dvOk a ∧ dvOk b) → PFD Try.prog 97 [tr a, tr b] (vbl (dist a b)) := fun ⟨ha, hb⟩ => by
  refine pi1 fn97 ?_
  (repeat' first | (refine Owe.same ?_; first | refine Owe.o ?_ | refine Owe.mk ?_ ?_) | (refine Fork.same ?_; (first | refine fkD ?_ ?_ | refine fkN ?_ ?_ | refine fkM ?_ ?_) <;> intro h) | ((first | refine OpsL.same ?_ | refine OpsDL.same ?_); first | refine pK C80 rfl rfl ?_) | refine MvQ.stay ?_)
  (refine rqK rfl ?_; (repeat' first | exact rfl | (refine qS ?_; constructor)))
theorem C98 {d : Dv} : dvOk d → PFD Try.prog 98 [tr d] (vi .i64 (win d)) := fun h => by
  refine pi1 fn98 ?_
  (repeat' first | (refine Owe.same ?_; first | refine Owe.o ?_ | refine Owe.mk ?_ ?_) | (refine Fork.same ?_; (first | refine fkD ?_ ?_ | refine fkN ?_ ?_ | refine fkM ?_ ?_) <;> intro h) | refine MvQ.stay ?_)
  (refine rqK rfl ?_; (repeat' first | exact rfl | (refine qS ?_; constructor)))
def cyE (n : Int) : Int := unl (1 ≤ n ∧ n ≤ 40) 2
theorem C99 {n : Int} : PFD Try.prog 99 [vi .i64 n] (vi .i64 (cyE n)) := by
  refine pi1 fn99 ?_
  (repeat' first | (refine Owe.same ?_; first | refine Owe.o ?_ | refine Owe.mk ?_ ?_) | (refine Fork.same ?_; (first | refine fkD ?_ ?_ | refine fkN ?_ ?_ | refine fkM ?_ ?_) <;> intro h) | ((first | refine OpsL.same ?_ | refine OpsDL.same ?_); first | refine pK C50 rfl rfl ?_ | refine pK C49 rfl rfl ?_) | refine MvQ.stay ?_)
  (refine rqK rfl ?_; (repeat' first | exact rfl | (refine qS ?_; constructor)))
def dvE (d : Dv) : Int := unl (dvOk d) 2
theorem C127 {i : Int} {d : Dv} : PFD Try.prog 127 [vi .i64 i, tr d] (vi .i64 (dvE d)) := by
  refine pi1 fn127 ?_
  (repeat' first | (refine Owe.same ?_; first | refine Owe.o ?_ | refine Owe.mk ?_ ?_) | (refine Fork.same ?_; (first | refine fkD ?_ ?_ | refine fkN ?_ ?_ | refine fkM ?_ ?_) <;> intro h) | ((first | refine OpsL.same ?_ | refine OpsDL.same ?_); first | refine pK C50 rfl rfl ?_ | refine pK C49 rfl rfl ?_) | refine MvQ.stay ?_)
  all_goals ((refine rqK rfl ?_; (repeat' first | exact rfl | (refine qS ?_; constructor))); rw [dvE]; refine congrArg (fun b => unb b 2) ?_; rw [Bool.eq_iff_iff]; (try simp only [decide_eq_true_eq, Bool.false_eq_true, false_iff]); omega)
theorem C126 {g : FuncId} {f : Dv → Int} (hg : ∀ (i : Int) (x : Dv), PFD Try.prog g [vi .i64 i, tr x] (vi .i64 (f x))) {l : List Dv} : l.length ≤ 1000000 → PFD Try.prog 126 [.c (trs l), .c (.fn g [])] (.tup [vi .i64 (eachE f 0 l).1, vi .i64 (eachE f 0 l).2]) := fun hl => by
  refine pi2 fn126 ?_
  (repeat' first | (refine Owe.same ?_; first | refine Owe.o ?_ | refine Owe.mk ?_ ?_) | (refine Fork.same ?_; (first | refine fkD ?_ ?_ | refine fkN ?_ ?_ | refine fkM ?_ ?_) <;> intro h) | refine MvQ.stay ?_)
  refine Sat.lp0 (fun k : Nat => [(11, vi .i64 k), (10, vi .i64 l.length), (9, .c (trs l)), (1, .c (.fn g []))]) (fun k => k ≤ l.length ∧ eachE f 0 l = eachE f k (l.drop k)) (fun k => l.length - k) 0 ⟨Nat.zero_le _, rfl⟩ (by ((first | refine qen ?_ | refine qvs ?_ | refine qeq ?_ | refine qst ?_ | refine qv ?_ | refine qc ?_ | refine qe ?_ | refine qcs ?_ | skip); (repeat' first | exact rfl | (refine qS ?_; constructor)))) ?_
  intro k hk
  (repeat' first | (refine Owe.same ?_; first | refine Owe.o ?_ | refine Owe.mk ?_ ?_) | (refine Fork.same ?_; (first | refine fkD ?_ ?_ | refine fkN ?_ ?_ | refine fkM ?_ ?_) <;> intro h) | ((first | refine OpsL.same ?_ | refine OpsDL.same ?_); first | refine pK (hg _ _) rfl rfl ?_) | refine MvQ.stay ?_)
  · have e := eachE_drop f (0, 0, 0) l k (by omega)
    have h : ¬ f (l.getD k (0, 0, 0)) = 0 := h
    rw [if_neg h, ← hk.2] at e
    (refine rqK rfl ?_; (repeat' first | exact rfl | (refine qS ?_; constructor))) <;> rw [e] <;> rfl
  · have e := eachE_drop f (0, 0, 0) l k (by omega)
    have h : f (l.getD k (0, 0, 0)) = 0 := h
    rw [if_pos h, ← hk.2] at e
    exact again0 (k + 1) ⟨by omega, e⟩ (by omega) (by ((first | refine qen ?_ | refine qvs ?_ | refine qeq ?_ | refine qst ?_ | refine qv ?_ | refine qc ?_ | refine qe ?_ | refine qcs ?_ | skip); (repeat' first | exact rfl | (refine qS ?_; constructor))))
  · have e : eachE f 0 l = (0, 0) := by rw [hk.2, List.drop_of_length_le (by omega)]; rfl
    (refine rqK rfl ?_; (repeat' first | exact rfl | (refine qS ?_; constructor))) <;> rw [e]
/-- The error of devices, with an index. -/
def dvsE (l : List Dv) : Int × Int := if cntE l.length 5 = 0 then eachE dvE 0 l else (0, cntE l.length 5)
theorem C119 {l : List Dv} : l.length ≤ 1000000 → PFD Try.prog 119 [.c (trs l)] (.tup [vi .i64 (dvsE l).1, vi .i64 (dvsE l).2]) := fun hl => by
  have c1 := C126 (fun i x => C127 (i := i) (d := x)) hl
  refine pi2 fn119 ?_
  (repeat' first | (refine Owe.same ?_; first | refine Owe.o ?_ | refine Owe.mk ?_ ?_) | (refine Fork.same ?_; (first | refine fkD ?_ ?_ | refine fkN ?_ ?_ | refine fkM ?_ ?_) <;> intro h) | ((first | refine OpsL.same ?_ | refine OpsDL.same ?_); first | refine pK C110 rfl rfl ?_ | refine pK c1 rfl rfl ?_) | refine MvQ.stay ?_)
  · have h : ¬ cntE l.length 5 = 0 := h
    (refine rqK rfl ?_; (repeat' first | exact rfl | (refine qS ?_; constructor))) <;> rw [dvsE, if_neg h]
  · have h : cntE l.length 5 = 0 := h
    (refine rqK rfl ?_; (repeat' first | exact rfl | (refine qS ?_; constructor))) <;> rw [dvsE, if_pos h]
theorem C95 {l : List Dv} : l.length ≤ 1000000 → PFD Try.prog 95 [.c (trs l)] (vi .i64 (dvsE l).2) := fun hl => by
  refine pi1 fn95 ?_
  (repeat' first | (refine Owe.same ?_; first | refine Owe.o ?_ | refine Owe.mk ?_ ?_) | (refine Fork.same ?_; (first | refine fkD ?_ ?_ | refine fkN ?_ ?_ | refine fkM ?_ ?_) <;> intro h) | ((first | refine OpsL.same ?_ | refine OpsDL.same ?_); first | refine pK C119 rfl rfl ?_) | refine MvQ.stay ?_)
  (refine rqK rfl ?_; (repeat' first | exact rfl | (refine qS ?_; constructor)))
theorem cntE_ok {n m : Int} : cntE n m = 0 ↔ 0 < n ∧ n ≤ m := by
  rw [cntE, fst0, fst0]
  simp only [unl0 (show (10 : Int) ≠ 0 by decide), unl0 (show (8 : Int) ≠ 0 by decide), fst_nil, and_true]
/-- Valid devices. -/
structure DvOk (l : List Dv) : Prop where
  n : 0 < l.length ∧ l.length ≤ 5
  d : ∀ i, i < l.length → dvOk (l.getD i (0, 0, 0))
theorem dvsE_ok {l : List Dv} : (dvsE l).2 = 0 ↔ DvOk l := by
  constructor
  · intro h
    by_cases h0 : cntE l.length 5 = 0
    · rw [dvsE, if_pos h0, eachE_ok] at h
      have := cntE_ok.1 h0
      exact ⟨by omega, fun i hi => by have := h _ (getD_mem (0, 0, 0) hi); rwa [dvE, unl0 (by decide)] at this⟩
    · rw [dvsE, if_neg h0] at h; exact absurd h h0
  · intro h
    have h0 : cntE l.length 5 = 0 := cntE_ok.2 (by have := h.n; omega)
    rw [dvsE, if_pos h0, eachE_ok]
    intro x hx
    obtain ⟨i, hi, rfl⟩ := List.getElem_of_mem hx
    have := h.d i hi
    rw [List.getD_eq_getElem?_getD, List.getElem?_eq_getElem hi] at this
    rw [dvE, unl0 (by decide)]; exact this
abbrev dv (l : List Dv) (i : Int) : Dv := l.getD i.toNat (0, 0, 0)
/-- The devices of a set disturb each other, up to one of them. -/
def pwB (l : List Dv) (t : List Int) (k : Nat) : Bool := (List.range k).all fun i => (List.range i).all fun j => dist (dv l (t.getD i 0)) (dv l (t.getD j 0))
def wnS (l : List Dv) (t : List Int) : Nat → Int
  | 0 => 0
  | k + 1 => wnS l t k - win (dv l (t.getD k 0))
theorem pwB_succ (l : List Dv) (t : List Int) (k : Nat) : pwB l t (k + 1) = (pwB l t k && (List.range k).all fun j => dist (dv l (t.getD k 0)) (dv l (t.getD j 0))) := by
  simp [pwB, List.range_succ]
def bdC (l : List Dv) (t : List Int) : Int × Bool := if pwB l t t.length = true then (wnS l t t.length, true) else (0, false)
theorem wnS_bd {l : List Dv} {t : List Int} (hl : DvOk l) (ht : ∀ x ∈ t, 0 ≤ x ∧ x < l.length) : ∀ k, k ≤ t.length → -(20 * (k : Int)) ≤ wnS l t k ∧ wnS l t k ≤ 0
  | 0, _ => by simp [wnS]
  | k + 1, hk => by
    have ih := wnS_bd hl ht k (by omega)
    have h1 := ht _ (getD_mem 0 (show k < t.length by omega))
    have h2 := hl.d (t.getD k 0).toNat (by omega)
    simp only [wnS, win, dv]; omega
theorem pwB_le {l : List Dv} {t : List Int} {k m : Nat} (hkm : k ≤ m) (h : pwB l t m = true) : pwB l t k = true := by
  simp only [pwB, List.all_eq_true, List.mem_range] at h ⊢
  exact fun i hi j hj => h i (by omega) j hj
theorem C96 {l : List Dv} {t : List Int} (hl : DvOk l) (htl : t.length ≤ 1000000) (ht : ∀ x ∈ t, 0 ≤ x ∧ x < l.length) : PFD Try.prog 96 [.c (ints t), .c (.rp [.sl 3 l.length fun i => r3 (l.getD i (0, 0, 0))])] (.tup [vi .i64 (bdC l t).1, vbl (bdC l t).2]) := by
  have hn := hl.n
  refine pi2 fn96 ?_
  (repeat' first | (refine Owe.same ?_; first | refine Owe.o ?_ | refine Owe.mk ?_ ?_) | (refine Fork.same ?_; (first | refine fkD ?_ ?_ | refine fkN ?_ ?_ | refine fkM ?_ ?_) <;> intro h) | refine MvQ.stay ?_)
  refine Sat.lp0 (fun k : Nat => [(12, vi .i64 k), (11, vi .i64 t.length), (10, .c (ints t)), (0, .c (ints t)), (1, .c (.rp [.sl 3 l.length fun i => r3 (l.getD i (0, 0, 0))])), (5, vi .i64 (wnS l t k))]) (fun k => k ≤ t.length ∧ pwB l t k = true) (fun k => t.length - k) 0 ⟨Nat.zero_le _, rfl⟩ (by ((first | refine qen ?_ | refine qvs ?_ | refine qeq ?_ | refine qst ?_ | refine qv ?_ | refine qc ?_ | refine qe ?_ | refine qcs ?_ | skip); (repeat' first | exact rfl | (refine qS ?_; constructor)))) ?_
  intro k hk
  have hb := wnS_bd hl ht k hk.1
  refine Fork.dec (fun hlt => ?_) (fun hlt => ?_)
  · have hlt : k < t.length := by omega
    have h1 := ht _ (getD_mem 0 hlt)
    have h2 := hl.d (t.getD k 0).toNat (by omega)
    (repeat' first | (refine Owe.same ?_; first | refine Owe.o ?_ | refine Owe.mk ?_ ?_) | (refine Fork.same ?_; (first | refine fkD ?_ ?_ | refine fkN ?_ ?_ | refine fkM ?_ ?_) <;> intro h) | refine MvQ.stay ?_)
    refine Sat.lp0 (fun j : Nat => [(21, vi .i64 j), (20, vi .i64 k), (19, .c (.d (.sl 1 k fun i => r1 (t.getD i 0)))), (7, vi .i64 (t.getD k 0)), (12, vi .i64 k), (11, vi .i64 t.length), (10, .c (ints t)), (0, .c (ints t)), (1, .c (.rp [.sl 3 l.length fun i => r3 (l.getD i (0, 0, 0))])), (5, vi .i64 (wnS l t k))]) (fun j => j ≤ k ∧ (List.range j).all (fun j => dist (dv l (t.getD k 0)) (dv l (t.getD j 0))) = true) (fun j => k - j) 0 ⟨Nat.zero_le _, rfl⟩ (by ((first | refine qen ?_ | refine qvs ?_ | refine qeq ?_ | refine qst ?_ | refine qv ?_ | refine qc ?_ | refine qe ?_ | refine qcs ?_ | skip); (repeat' first | exact rfl | (refine qS ?_; constructor)))) ?_
    intro j hj
    refine Fork.dec (fun hlj => ?_) (fun hlj => ?_)
    · have hlj : j < k := by omega
      have h3 := ht _ (getD_mem 0 (show j < t.length by omega))
      have h4 := hl.d (t.getD j 0).toNat (by omega)
      have c97 : PFD Try.prog 97 _ _ := C97 (a := dv l (t.getD k 0)) (b := dv l (t.getD j 0)) ⟨h2, h4⟩
      (repeat' first | (refine Owe.same ?_; first | refine Owe.o ?_ | refine Owe.mk ?_ ?_) | (refine Fork.same ?_; (first | refine fkD ?_ ?_ | refine fkN ?_ ?_ | refine fkM ?_ ?_) <;> intro h) | ((first | refine OpsL.same ?_ | refine OpsDL.same ?_); first | refine pK c97 rfl rfl ?_) | refine MvQ.stay ?_)
      · have h : dist (dv l (t.getD k 0)) (dv l (t.getD j 0)) = false := decide_eq_false h
        have e : bdC l t = (0, false) := by
          rw [bdC, if_neg]
          intro hp
          have := pwB_le (show k + 1 ≤ t.length by omega) hp
          rw [pwB_succ, Bool.and_eq_true] at this
          have := (List.all_eq_true.1 this.2) j (List.mem_range.2 hlj)
          rw [h] at this; cases this
        (refine rqK rfl ?_; (repeat' first | exact rfl | (refine qS ?_; constructor))) <;> rw [e]
      · have h : dist (dv l (t.getD k 0)) (dv l (t.getD j 0)) = true := decide_eq_true h
        refine again0 (j + 1) ⟨hlj, ?_⟩ (by omega) (by ((first | refine qen ?_ | refine qvs ?_ | refine qeq ?_ | refine qst ?_ | refine qv ?_ | refine qc ?_ | refine qe ?_ | refine qcs ?_ | skip); (repeat' first | exact rfl | (refine qS ?_; constructor))))
        rw [List.range_succ, List.all_append, hj.2]
        simp only [List.all_cons, List.all_nil, Bool.and_true, Bool.true_and]; exact h
    · have : j = k := by omega
      subst this
      have c98 : PFD Try.prog 98 _ _ := C98 (d := dv l (t.getD j 0)) h2
      have hw : 1 ≤ win (dv l (t.getD j 0)) ∧ win (dv l (t.getD j 0)) ≤ 20 := by simp only [win, dv]; omega
      (repeat' first | (refine Owe.same ?_; first | refine Owe.o ?_ | refine Owe.mk ?_ ?_) | (refine Fork.same ?_; (first | refine fkD ?_ ?_ | refine fkN ?_ ?_ | refine fkM ?_ ?_) <;> intro h) | ((first | refine OpsL.same ?_ | refine OpsDL.same ?_); first | refine pK c98 rfl rfl ?_) | refine MvQ.stay ?_)
      exact again0 (j + 1) ⟨hlt, by rw [pwB_succ, hk.2, hj.2]; rfl⟩ (by omega) (by ((first | refine qen ?_ | refine qvs ?_ | refine qeq ?_ | refine qst ?_ | refine qv ?_ | refine qc ?_ | refine qe ?_ | refine qcs ?_ | skip); (repeat' first | exact rfl | (refine qS ?_; constructor))))
  · have : k = t.length := by omega
    subst this
    (repeat' first | (refine Owe.same ?_; first | refine Owe.o ?_ | refine Owe.mk ?_ ?_) | (refine Fork.same ?_; (first | refine fkD ?_ ?_ | refine fkN ?_ ?_ | refine fkM ?_ ?_) <;> intro h) | refine MvQ.stay ?_)
    have e : bdC l t = (wnS l t t.length, true) := by rw [bdC, if_pos hk.2]
    (refine rqK rfl ?_; (repeat' first | exact rfl | (refine qS ?_; constructor))) <;> rw [e]
/-- The best set for the bound. -/
abbrev bdK (l : List Dv) : BSt := bestK (bdC l) l.length (2 ^ l.length)
theorem bestK_lo {c : List Int → Int × Bool} {n : Nat} {lo : Int} (hlo : lo ≤ 0) (h : ∀ b, lo ≤ (c (subL n b)).1 ∧ (c (subL n b)).1 ≤ 0) : ∀ b, lo ≤ (bestK c n b).p ∧ (bestK c n b).p ≤ 0
  | 0 => by simp [bestK, hlo]
  | b + 1 => by
    have ih := bestK_lo hlo h b
    simp only [bestK]
    split
    · exact h b
    · exact ih
theorem bdC_bd {l : List Dv} (hl : DvOk l) (b : Nat) : -100 ≤ (bdC l (subL l.length b)).1 ∧ (bdC l (subL l.length b)).1 ≤ 0 := by
  have h1 := wnS_bd hl (t := subL l.length b) (fun x hx => subL_mem hx) _ (Nat.le_refl _)
  have h2 : (subL l.length b).length ≤ l.length := fltL_len _ _
  have h3 := hl.n
  rw [bdC]
  split
  · simp only; omega
  · simp
theorem C73 {l : List Dv} : l.length ≤ 1000000 → PFD Try.prog 73 [.c (trs l)] (.tup [.c (ints (if (dvsE l).2 = 0 then (bdK l).l else [])), vi .i64 (if (dvsE l).2 = 0 then -(bdK l).p else 0), vi .i64 (dvsE l).2]) := fun hl => by
  have c1 := C95 hl
  by_cases h0 : (dvsE l).2 = 0
  · have hO := dvsE_ok.1 h0
    have hn := hO.n
    have c2 := C68 (g := 96) (rows := [[.sl 3 l.length fun i => r3 (l.getD i (0, 0, 0))]]) (c := bdC l) (n := l.length) (fun t ht hx => C96 hO ht hx) (show l.length ≤ 20 by omega)
    have hp := bestK_lo (c := bdC l) (n := l.length) (lo := -100) (by decide) (fun b => bdC_bd hO b) (2 ^ l.length)
    rw [if_pos h0, if_pos h0]
    rw [h0] at c1
    refine pi3 fn73 ?_
    (repeat' first | (refine Owe.same ?_; first | refine Owe.o ?_ | refine Owe.mk ?_ ?_) | (refine Fork.same ?_; (first | refine fkD ?_ ?_ | refine fkN ?_ ?_ | refine fkM ?_ ?_) <;> intro h) | ((first | refine OpsL.same ?_ | refine OpsDL.same ?_); first | refine pK c1 rfl rfl ?_ | refine pK c2 rfl rfl ?_) | refine MvQ.stay ?_)
    · exact absurd rfl h
    · (refine rqK rfl ?_; (repeat' first | exact rfl | (refine qS ?_; constructor)))
      exact h0.symm
  · rw [if_neg h0, if_neg h0]
    refine pi3 fn73 ?_
    (repeat' first | (refine Owe.same ?_; first | refine Owe.o ?_ | refine Owe.mk ?_ ?_) | (refine Fork.same ?_; (first | refine fkD ?_ ?_ | refine fkN ?_ ?_ | refine fkM ?_ ?_) <;> intro h) | ((first | refine OpsL.same ?_ | refine OpsDL.same ?_); first | refine pK c1 rfl rfl ?_) | refine MvQ.stay ?_)
    · (refine rqK rfl ?_; (repeat' first | exact rfl | (refine qS ?_; constructor)))
    · exact absurd h h0
end Go.Pw

set_option linter.unusedSimpArgs false
namespace Go.Pw
set_option maxRecDepth 2000
open Go Go.Proofs A1 A2 A3 A4
theorem tmod_nn {a b : Int} (ha : 0 ≤ a) (hb : 0 < b) : a.tmod b = a % b ∧ 0 ≤ a % b ∧ a % b < b := ⟨Int.tmod_eq_emod_of_nonneg ha, Int.emod_nonneg _ (by omega), Int.emod_lt_of_pos _ hb⟩
/-- Whether two windows have a common tick. -/
def mtB (a b : Dv) (s t c : Int) : Bool := decide ((t - s + c) % c < win a) || decide ((c - (t - s + c) % c) % c < win b)
theorem C128 {a b : Dv} {s t c : Int} : ((dvOk a ∧ dvOk b) ∧ (0 < c ∧ c ≤ 40) ∧ (0 ≤ s ∧ s < c) ∧ 0 ≤ t ∧ t < c) → PFD Try.prog 128 [tr a, tr b, vi .i64 s, vi .i64 t, vi .i64 c] (vbl (mtB a b s t c)) := fun ⟨⟨ha, hb⟩, hc, hs, ht⟩ => by
  obtain ⟨e1, e2, e3⟩ := tmod_nn (a := t - s + c) (b := c) (by omega) hc.1
  obtain ⟨e4, e5, e6⟩ := tmod_nn (a := c - (t - s + c) % c) (b := c) (by omega) hc.1
  rw [← e1] at e2 e3 e4 e5 e6
  have e : mtB a b s t c = (decide ((t - s + c).tmod c < win a) || decide ((c - (t - s + c).tmod c).tmod c < win b)) := by rw [e4, e1]; rfl
  rw [e]
  refine pi1 fn128 ?_
  (repeat' first | (refine Owe.same ?_; first | refine Owe.o ?_ | refine Owe.mk ?_ ?_) | (refine Fork.same ?_; (first | refine fkD ?_ ?_ | refine fkN ?_ ?_ | refine fkM ?_ ?_) <;> intro h) | ((first | refine OpsL.same ?_ | refine OpsDL.same ?_); first | refine pK C98 rfl rfl ?_) | refine MvQ.stay ?_)
  · (refine rqK rfl ?_; (repeat' first | exact rfl | (refine qS ?_; constructor)))
    rw [decide_eq_true h]; rfl
  · (refine rqK rfl ?_; (repeat' first | exact rfl | (refine qS ?_; constructor)))
    rw [decide_eq_false h]; rfl
theorem C120 {l : List Int} : l.length ≤ 1000000 → PFD Try.prog 120 [.c (ints l)] (.c (.cl 1 l.length fun i => r1 (l.getD i 0))) := fun hl => by
  refine pi1 fn120 ?_
  (repeat' first | (refine Owe.same ?_; first | refine Owe.o ?_ | refine Owe.mk ?_ ?_) | (refine Fork.same ?_; (first | refine fkD ?_ ?_ | refine fkN ?_ ?_ | refine fkM ?_ ?_) <;> intro h) | refine MvQ.stay ?_)
  (refine rqK rfl ?_; (repeat' first | exact rfl | (refine qS ?_; constructor)))
/-- Whether two devices blind each other, or one itself. -/
def blB (l : List Dv) (st : List Int) (i k : Nat) (c : Int) : Bool :=
  if i = k then decide (c < win (l.getD i (0, 0, 0))) else dist (l.getD i (0, 0, 0)) (l.getD k (0, 0, 0)) && mtB (l.getD i (0, 0, 0)) (l.getD k (0, 0, 0)) (st.getD i 0) (st.getD k 0) c
/-- Starts within a cycle. -/
abbrev stOk (st : List Int) (c : Int) : Prop := ∀ i, i < st.length → 0 ≤ st.getD i 0 ∧ st.getD i 0 < c
theorem C121 {l : List Dv} {st : List Int} {i k : Nat} {c : Int} : (DvOk l ∧ (0 < c ∧ c ≤ 40) ∧ stOk st c ∧ (i < l.length ∧ k < l.length) ∧ i < st.length ∧ k < st.length) → PFD Try.prog 121 [.c (trs l), .c (ints st), vi .i64 i, vi .i64 k, vi .i64 c] (vbl (blB l st i k c)) := fun ⟨hl, hc, hs, hi, hst⟩ => by
  have h1 := hl.d i hi.1
  have h2 := hl.d k hi.2
  have h3 := hs i hst.1
  have h4 := hs k hst.2
  have c98 : PFD Try.prog 98 _ _ := C98 (d := l.getD i (0, 0, 0)) h1
  have c97 : PFD Try.prog 97 _ _ := C97 (a := l.getD i (0, 0, 0)) (b := l.getD k (0, 0, 0)) ⟨h1, h2⟩
  have c128 : PFD Try.prog 128 _ _ := C128 (a := l.getD i (0, 0, 0)) (b := l.getD k (0, 0, 0)) (s := st.getD i 0) (t := st.getD k 0) (c := c) ⟨⟨h1, h2⟩, hc, h3, h4⟩
  refine pi1 fn121 ?_
  (repeat' first | (refine Owe.same ?_; first | refine Owe.o ?_ | refine Owe.mk ?_ ?_) | (refine Fork.same ?_; (first | refine fkD ?_ ?_ | refine fkN ?_ ?_ | refine fkM ?_ ?_) <;> intro h) | ((first | refine OpsL.same ?_ | refine OpsDL.same ?_); first | refine pK c98 rfl rfl ?_ | refine pK c97 rfl rfl ?_ | refine pK c128 rfl rfl ?_) | refine MvQ.stay ?_)
  · have : i = k := by omega
    subst this
    (refine rqK rfl ?_; (repeat' first | exact rfl | (refine qS ?_; constructor)))
    rw [blB, if_pos rfl]
  · rename_i h5
    have h : dist (l.getD i (0, 0, 0)) (l.getD k (0, 0, 0)) = true := decide_eq_true h
    (refine rqK rfl ?_; (repeat' first | exact rfl | (refine qS ?_; constructor)))
    rw [blB, if_neg (by omega), h]; rfl
  · rename_i h5
    have h : dist (l.getD i (0, 0, 0)) (l.getD k (0, 0, 0)) = false := decide_eq_false h
    (refine rqK rfl ?_; (repeat' first | exact rfl | (refine qS ?_; constructor)))
    rw [blB, if_neg (by omega), h]; rfl
def tryL (g : Nat → Option (Option (List Int))) : Nat → Nat → Option (List Int)
  | 0, _ => none
  | r + 1, n => match g n with
    | none => tryL g r (n + 1)
    | some o => o
/-- A device that is placed blinds one before it, or itself. -/
def blk (l : List Dv) (st : List Int) (c : Int) (k : Nat) : Bool := (List.range k).any fun j => blB l st j (st.length - 1) c
def plS (l : List Dv) (c : Nat) : Nat → List Int → Option (List Int)
  | 0, st => some st
  | f + 1, st => tryL (fun n => if blk l (st ++ [(n : Int)]) c (st.length + 1) = true then none else match plS l c f (st ++ [(n : Int)]) with
    | some o => some (some o)
    | none => if st.length = 0 then some none else none) c 0
def plV : Option (List Int) → V
  | none => .c (.d (.v (.slice none 0 0)))
  | some o => .c (ints o)
theorem tryL_pos {g : Nat → Option (Option (List Int))} {P : List Int → Prop} (h : ∀ n o, g n = some (some o) → P o) : ∀ (r n : Nat) (o : List Int), tryL g r n = some o → P o
  | 0, n, o, e => by cases e
  | r + 1, n, o, e => by
    rw [tryL] at e
    split at e
    · exact tryL_pos h r (n + 1) o e
    · rename_i q hq
      subst e
      exact h n o hq
theorem plS_len {l : List Dv} {c : Nat} : ∀ (f : Nat) (st o : List Int), plS l c f st = some o → o.length = st.length + f
  | 0, st, o, h => by simp only [plS, Option.some.injEq] at h; subst h; rfl
  | f + 1, st, o, h => by
    rw [plS] at h
    refine tryL_pos (P := fun o => o.length = st.length + (f + 1)) (fun n o hn => ?_) _ _ _ h
    split at hn
    · cases hn
    · split at hn
      · rename_i o' ho
        cases hn
        have := plS_len f _ _ ho
        simp at this; omega
      · split at hn <;> cases hn
theorem stOk_app {st : List Int} {c : Int} {n : Int} (h : stOk st c) (hn : 0 ≤ n ∧ n < c) : stOk (st ++ [n]) c := fun i hi => by
  rw [List.length_append] at hi
  by_cases h1 : i < st.length
  · have := h i h1
    simpa [List.getD_eq_getElem?_getD, List.getElem?_append_left h1] using this
  · have : i = st.length := by simp at hi; omega
    subst this
    simpa [List.getD_eq_getElem?_getD] using hn
/-- What a first start leads to. -/
def plG (l : List Dv) (c f : Nat) (st : List Int) (n : Nat) : Option (Option (List Int)) := if blk l (st ++ [(n : Int)]) c (st.length + 1) = true then none else match plS l c f (st ++ [(n : Int)]) with
    | some o => some (some o)
    | none => if st.length = 0 then some none else none
theorem plS_succ (l : List Dv) (c f : Nat) (st : List Int) : plS l c (f + 1) st = tryL (plG l c f st) c 0 := rfl
theorem blk_succ (l : List Dv) (st : List Int) (c : Int) (k : Nat) : blk l st c (k + 1) = (blk l st c k || blB l st k (st.length - 1) c) := by
  simp [blk, List.range_succ]
theorem blk_le {l : List Dv} {st : List Int} {c : Int} {k m : Nat} (hkm : k < m) (h : blB l st k (st.length - 1) c = true) : blk l st c m = true := by
  rw [blk, List.any_eq_true]; exact ⟨k, List.mem_range.2 hkm, h⟩
theorem C100 {l : List Dv} {c : Nat} (hl : DvOk l) (hc : 0 < c ∧ c ≤ 40) : ∀ (f : Nat) (st : List Int), st.length + f = l.length → stOk st c → PFD Try.prog 100 [.c (trs l), .c (ints st), vi .i64 c] (plV (plS l c f st))
  | 0, st, hf, hs => by
    have hn := hl.n
    rw [plS, plV]
    refine pi1 fn100 ?_
    (repeat' first | (refine Owe.same ?_; first | refine Owe.o ?_ | refine Owe.mk ?_ ?_) | (refine Fork.same ?_; (first | refine fkD ?_ ?_ | refine fkN ?_ ?_ | refine fkM ?_ ?_) <;> intro h) | refine MvQ.stay ?_)
    · (refine rqK rfl ?_; (repeat' first | exact rfl | (refine qS ?_; constructor)))
    · exfalso; omega
  | f + 1, st, hf, hs => by
    have hn := hl.n
    have ih := C100 hl hc f
    rw [plS_succ]
    obtain ⟨q, hq⟩ : ∃ q, tryL (plG l c f st) c 0 = q := ⟨_, rfl⟩
    rw [hq]
    refine pi1 fn100 ?_
    (repeat' first | (refine Owe.same ?_; first | refine Owe.o ?_ | refine Owe.mk ?_ ?_) | (refine Fork.same ?_; (first | refine fkD ?_ ?_ | refine fkN ?_ ?_ | refine fkM ?_ ?_) <;> intro h) | refine MvQ.stay ?_)
    · exfalso; omega
    refine Sat.lp0 (fun n : Nat => [(20, vi .i64 n), (19, vi .i64 c), (0, .c (trs l)), (1, .c (ints st)), (2, vi .i64 c), (7, vi .i64 st.length)]) (fun n => n ≤ c ∧ q = tryL (plG l c f st) (c - n) n) (fun n => c - n) 0 ⟨Nat.zero_le _, hq.symm⟩ (by ((first | refine qen ?_ | refine qvs ?_ | refine qeq ?_ | refine qst ?_ | refine qv ?_ | refine qc ?_ | refine qe ?_ | refine qcs ?_ | skip); (repeat' first | exact rfl | (refine qS ?_; constructor)))) ?_
    intro n hn'
    have he := hn'.2
    refine Fork.dec (fun hlt => ?_) (fun hlt => ?_)
    · have hlt : n < c := by omega
      rw [show c - n = (c - (n + 1)) + 1 by omega, tryL] at he
      have hln : (st ++ [(n : Int)]).length = st.length + 1 := by simp
      have hso : stOk (st ++ [(n : Int)]) c := stOk_app hs (by omega)
      (repeat' first | (refine Owe.same ?_; first | refine Owe.o ?_ | refine Owe.mk ?_ ?_) | (refine Fork.same ?_; (first | refine fkD ?_ ?_ | refine fkN ?_ ?_ | refine fkM ?_ ?_) <;> intro h) | ((first | refine OpsL.same ?_ | refine OpsDL.same ?_); first | refine pK C120 rfl rfl ?_) | refine MvQ.stay ?_)
      refine SatL.as 9 (.c (ints (st ++ [(n : Int)]))) (QQ.sound (.dapp ⟨_, rfl, rfl⟩)) ?_
      refine SatL.as 28 (.c (ints (st ++ [(n : Int)]))) (QQ.sound (.dapp ⟨_, rfl, rfl⟩)) ?_
      refine Sat.lp0 (fun k : Nat => [(30, vi .i64 k), (29, vi .i64 (st.length + 1 : Nat)), (28, .c (ints (st ++ [(n : Int)]))), (9, .c (ints (st ++ [(n : Int)]))), (20, vi .i64 n), (19, vi .i64 c), (0, .c (trs l)), (1, .c (ints st)), (2, vi .i64 c), (7, vi .i64 st.length)]) (fun k => k ≤ st.length + 1 ∧ blk l (st ++ [(n : Int)]) c k = false) (fun k => st.length + 1 - k) 0 ⟨Nat.zero_le _, rfl⟩ (by ((first | refine qen ?_ | refine qvs ?_ | refine qeq ?_ | refine qst ?_ | refine qv ?_ | refine qc ?_ | refine qe ?_ | refine qcs ?_ | skip); (repeat' first | exact rfl | (refine qS ?_; constructor)))) ?_
      intro k hk
      refine Fork.dec (fun hlk => ?_) (fun hlk => ?_)
      · have hlk : k < st.length + 1 := by omega
        have c121 : PFD Try.prog 121 _ _ := C121 (l := l) (st := st ++ [(n : Int)]) (i := k) (k := st.length) (c := c) ⟨hl, by omega, hso, by omega, by omega⟩
        have hbs := blk_succ l (st ++ [(n : Int)]) c k
        rw [show (st ++ [(n : Int)]).length - 1 = st.length by omega] at hbs
        (repeat' first | (refine Owe.same ?_; first | refine Owe.o ?_ | refine Owe.mk ?_ ?_) | (refine Fork.same ?_; (first | refine fkD ?_ ?_ | refine fkN ?_ ?_ | refine fkM ?_ ?_) <;> intro h) | ((first | refine OpsL.same ?_ | refine OpsDL.same ?_); first | refine pK c121 rfl rfl ?_) | refine MvQ.stay ?_)
        · have h : blB l (st ++ [(n : Int)]) k st.length c = true := h
          have hg : plG l c f st n = none := by
            rw [plG, if_pos]
            exact blk_le hlk (by rw [show (st ++ [(n : Int)]).length - 1 = st.length by omega]; exact h)
          rw [hg] at he
          exact again0 (n + 1) ⟨hlt, he⟩ (by omega) (by ((first | refine qen ?_ | refine qvs ?_ | refine qeq ?_ | refine qst ?_ | refine qv ?_ | refine qc ?_ | refine qe ?_ | refine qcs ?_ | skip); (repeat' first | exact rfl | (refine qS ?_; constructor))))
        · have h : blB l (st ++ [(n : Int)]) k st.length c = false := h
          exact again0 (k + 1) ⟨hlk, by rw [hbs, hk.2, h]; rfl⟩ (by omega) (by ((first | refine qen ?_ | refine qvs ?_ | refine qeq ?_ | refine qst ?_ | refine qv ?_ | refine qc ?_ | refine qe ?_ | refine qcs ?_ | skip); (repeat' first | exact rfl | (refine qS ?_; constructor))))
      · have : k = st.length + 1 := by omega
        subst this
        have c100 := ih (st ++ [(n : Int)]) (by omega) hso
        rcases hp : plS l c f (st ++ [(n : Int)]) with _ | o
        · rw [hp] at c100
          have hg : plG l c f st n = if st.length = 0 then some none else none := by
            rw [plG, if_neg (by rw [hk.2]; decide), hp]
          (repeat' first | (refine Owe.same ?_; first | refine Owe.o ?_ | refine Owe.mk ?_ ?_) | (refine Fork.same ?_; (first | refine fkD ?_ ?_ | refine fkN ?_ ?_ | refine fkM ?_ ?_) <;> intro h) | ((first | refine OpsL.same ?_ | refine OpsDL.same ?_); first | refine pK c100 rfl rfl ?_) | refine MvQ.stay ?_)
          · have h : st.length = 0 := by omega
            rw [hg, if_pos h] at he
            have he : q = none := he
            subst he
            rw [plV]
            (refine rqK rfl ?_; (repeat' first | exact rfl | (refine qS ?_; constructor)))
          · rw [hg, if_neg (by omega)] at he
            exact again0 (n + 1) ⟨hlt, he⟩ (by omega) (by ((first | refine qen ?_ | refine qvs ?_ | refine qeq ?_ | refine qst ?_ | refine qv ?_ | refine qc ?_ | refine qe ?_ | refine qcs ?_ | skip); (repeat' first | exact rfl | (refine qS ?_; constructor))))
        · rw [hp] at c100
          have hlo := plS_len _ _ _ hp
          have hg : plG l c f st n = some (some o) := by
            rw [plG, if_neg (by rw [hk.2]; decide), hp]
          rw [hg] at he
          have he : q = some o := he
          subst he
          rw [plV] at c100 ⊢
          (repeat' first | (refine Owe.same ?_; first | refine Owe.o ?_ | refine Owe.mk ?_ ?_) | (refine Fork.same ?_; (first | refine fkD ?_ ?_ | refine fkN ?_ ?_ | refine fkM ?_ ?_) <;> intro h) | ((first | refine OpsL.same ?_ | refine OpsDL.same ?_); first | refine pK c100 rfl rfl ?_) | refine MvQ.stay ?_)
          (refine rqK rfl ?_; (repeat' first | exact rfl | (refine qS ?_; constructor)))
    · (repeat' first | (refine Owe.same ?_; first | refine Owe.o ?_ | refine Owe.mk ?_ ?_) | (refine Fork.same ?_; (first | refine fkD ?_ ?_ | refine fkN ?_ ?_ | refine fkM ?_ ?_) <;> intro h) | refine MvQ.stay ?_)
      have : n = c := by omega
      subst this
      rw [Nat.sub_self, tryL] at he
      subst he
      rw [plV]
      (refine rqK rfl ?_; (repeat' first | exact rfl | (refine qS ?_; constructor)))
end Go.Pw

set_option linter.unusedSimpArgs false
namespace Go.Pw
set_option maxRecDepth 2000
open Go Go.Proofs A1 A2 A3 A4
abbrev Tn := Int × List Int
abbrev tv (t : Tn) : V := .agg [int t.1, ints t.2]
theorem cyE_ok {n : Int} : cyE n = 0 ↔ 1 ≤ n ∧ n ≤ 40 := by rw [cyE, unl0 (by decide)]
theorem fst2 {a b : Int} : fstE [a, b] = 0 ↔ a = 0 ∧ b = 0 := by rw [fst0, fst0]; simp only [fst_nil, and_true]
/-- The first turns of a cycle. -/
def ftR (l : List Dv) (c : Int) : Tn × Int := if fstE [(dvsE l).2, cyE c] = 0 then match plS l c.toNat l.length [] with
    | none => ((0, []), 12)
    | some o => ((c, o), 0)
  else ((0, []), fstE [(dvsE l).2, cyE c])
theorem C74 {l : List Dv} {c : Int} : l.length ≤ 1000000 → PFD Try.prog 74 [.c (trs l), vi .i64 c] (.tup [tv (ftR l c).1, vi .i64 (ftR l c).2]) := fun hl => by
  have c95 := C95 hl
  by_cases h0 : fstE [(dvsE l).2, cyE c] = 0
  · obtain ⟨h1, h2⟩ := fst2.1 h0
    have hO := dvsE_ok.1 h1
    have hc := cyE_ok.1 h2
    have e : ((c.toNat : Nat) : Int) = c := by omega
    have c100 := C100 (c := c.toNat) hO (by omega) l.length [] (by simp) (fun i hi => by cases hi)
    rw [e] at c100
    rcases hp : plS l c.toNat l.length [] with _ | o
    · rw [hp, plV] at c100
      have hr : ftR l c = ((0, []), 12) := by rw [ftR, if_pos h0, hp]
      rw [hr]
      refine pi2 fn74 ?_
      (repeat' first | (refine Owe.same ?_; first | refine Owe.o ?_ | refine Owe.mk ?_ ?_) | (refine Fork.same ?_; (first | refine fkD ?_ ?_ | refine fkN ?_ ?_ | refine fkM ?_ ?_) <;> intro h) | ((first | refine OpsL.same ?_ | refine OpsDL.same ?_); first | refine pK c95 rfl rfl ?_ | refine pK C99 rfl rfl ?_ | refine pK C47 rfl rfl ?_ | refine pK c100 rfl rfl ?_) | refine MvQ.stay ?_)
      · exact absurd h0 h
      · (refine rqK rfl ?_; (repeat' first | exact rfl | (refine qS ?_; constructor)))
    · have hlo := plS_len _ _ _ hp
      have hn := hO.n
      rw [hp, plV] at c100
      have hr : ftR l c = ((c, o), 0) := by rw [ftR, if_pos h0, hp]
      rw [hr]
      refine pi2 fn74 ?_
      (repeat' first | (refine Owe.same ?_; first | refine Owe.o ?_ | refine Owe.mk ?_ ?_) | (refine Fork.same ?_; (first | refine fkD ?_ ?_ | refine fkN ?_ ?_ | refine fkM ?_ ?_) <;> intro h) | ((first | refine OpsL.same ?_ | refine OpsDL.same ?_); first | refine pK c95 rfl rfl ?_ | refine pK C99 rfl rfl ?_ | refine pK C47 rfl rfl ?_ | refine pK c100 rfl rfl ?_) | refine MvQ.stay ?_)
      · exact absurd h0 h
      · (refine rqK rfl ?_; (repeat' first | exact rfl | (refine qS ?_; constructor)))
  · have hr : ftR l c = ((0, []), fstE [(dvsE l).2, cyE c]) := by rw [ftR, if_neg h0]
    rw [hr]
    refine pi2 fn74 ?_
    (repeat' first | (refine Owe.same ?_; first | refine Owe.o ?_ | refine Owe.mk ?_ ?_) | (refine Fork.same ?_; (first | refine fkD ?_ ?_ | refine fkN ?_ ?_ | refine fkM ?_ ?_) <;> intro h) | ((first | refine OpsL.same ?_ | refine OpsDL.same ?_); first | refine pK c95 rfl rfl ?_ | refine pK C99 rfl rfl ?_ | refine pK C47 rfl rfl ?_) | refine MvQ.stay ?_)
    · (refine rqK rfl ?_; (repeat' first | exact rfl | (refine qS ?_; constructor)))
    · exact absurd h h0
def findT (l : List Dv) : Nat → Int → Tn × Int
  | 0, _ => ((0, []), 12)
  | r + 1, c => if (ftR l c).2 = 0 then ((ftR l c).1, 0) else findT l r (c + 1)
/-- The shortest turns. -/
def shR (l : List Dv) : Tn × Int := if (dvsE l).2 = 0 then findT l (41 + (bdK l).p).toNat (-(bdK l).p) else ((0, []), (dvsE l).2)
theorem C36 {l : List Dv} : l.length ≤ 1000000 → PFD Try.prog 36 [.c (trs l)] (.tup [tv (shR l).1, vi .i64 (shR l).2]) := fun hl => by
  have c73 := C73 hl
  by_cases h0 : (dvsE l).2 = 0
  · have hO := dvsE_ok.1 h0
    have hp := bestK_lo (c := bdC l) (n := l.length) (lo := -100) (by decide) (fun b => bdC_bd hO b) (2 ^ l.length)
    have hr : shR l = findT l (41 + (bdK l).p).toNat (-(bdK l).p) := by rw [shR, if_pos h0]
    rw [if_pos h0, if_pos h0, h0] at c73
    generalize (bdK l).p = p at c73 hp hr
    rw [hr]
    generalize hq : findT l (41 + p).toNat (-p) = q
    refine pi2 fn36 ?_
    (repeat' first | (refine Owe.same ?_; first | refine Owe.o ?_ | refine Owe.mk ?_ ?_) | (refine Fork.same ?_; (first | refine fkD ?_ ?_ | refine fkN ?_ ?_ | refine fkM ?_ ?_) <;> intro h) | ((first | refine OpsL.same ?_ | refine OpsDL.same ?_); first | refine pK c73 rfl rfl ?_) | refine MvQ.stay ?_)
    · exact absurd rfl h
    obtain ⟨b, hb⟩ : ∃ b : Nat, -p = b := ⟨(-p).toNat, by omega⟩
    have hb2 : b ≤ 100 := by omega
    have hq2 : findT l (41 - b) b = q := by rw [← hq, hb]; congr 1; omega
    refine Sat.lp (fun k : Nat => ⟨[(7, vi .i64 k), (2, .c (.bp 0 0)), (0, .c (trs l))], [(0, .box [int 0, .d (.v (.slice none 0 0))])], 1⟩) (fun k => k ≤ 101 ∧ b ≤ k ∧ q = findT l (41 - k) k) (fun k => 101 - k) b [0] ⟨by omega, by omega, hq2.symm⟩ ?_ ?_
    · (refine qis ?_ ?_ <;> (repeat' first | exact rfl | (refine qS ?_; constructor)))
      exact hb
    · intro k hk
      refine Fork.dec (fun hlt => ?_) (fun hlt => ?_)
      · have hlt : k < 41 := by omega
        have he := hk.2.2
        rw [show 41 - k = (41 - (k + 1)) + 1 by omega, findT] at he
        have c74 := C74 (l := l) (c := k) hl
        (repeat' first | (refine Owe.same ?_; first | refine Owe.o ?_ | refine Owe.mk ?_ ?_) | (refine Fork.same ?_; (first | refine fkD ?_ ?_ | refine fkN ?_ ?_ | refine fkM ?_ ?_) <;> intro h) | ((first | refine OpsL.same ?_ | refine OpsDL.same ?_); first | refine pK c74 rfl rfl ?_) | refine MvQ.stay ?_)
        · have h : (ftR l k).2 = 0 := h
          rw [if_pos h] at he
          subst he
          (refine rqK rfl ?_; (repeat' first | exact rfl | (refine qS ?_; constructor)))
        · have h : ¬ (ftR l k).2 = 0 := h
          rw [if_neg h] at he
          refine again (k + 1) [0] ⟨by omega, by omega, he⟩ (by omega) ?_
          (refine qis ?_ ?_ <;> (repeat' first | exact rfl | (refine qS ?_; constructor)))
      · have he := hk.2.2
        rw [show 41 - k = 0 by omega, findT] at he
        subst he
        (repeat' first | (refine Owe.same ?_; first | refine Owe.o ?_ | refine Owe.mk ?_ ?_) | (refine Fork.same ?_; (first | refine fkD ?_ ?_ | refine fkN ?_ ?_ | refine fkM ?_ ?_) <;> intro h) | refine MvQ.stay ?_)
        (refine rqK rfl ?_; (repeat' first | exact rfl | (refine qS ?_; constructor)))
  · have hr : shR l = ((0, []), (dvsE l).2) := by rw [shR, if_neg h0]
    rw [hr]
    rw [if_neg h0, if_neg h0] at c73
    refine pi2 fn36 ?_
    (repeat' first | (refine Owe.same ?_; first | refine Owe.o ?_ | refine Owe.mk ?_ ?_) | (refine Fork.same ?_; (first | refine fkD ?_ ?_ | refine fkN ?_ ?_ | refine fkM ?_ ?_) <;> intro h) | ((first | refine OpsL.same ?_ | refine OpsDL.same ?_); first | refine pK c73 rfl rfl ?_) | refine MvQ.stay ?_)
    · (refine rqK rfl ?_; (repeat' first | exact rfl | (refine qS ?_; constructor)))
    · exact absurd h h0
end Go.Pw

set_option linter.unusedSimpArgs false
namespace Go.Pw
set_option maxRecDepth 2000
open Go Go.Proofs A1 A2 A3 A4
abbrev lyOk (x : Dv) : Prop := (1 ≤ x.1 ∧ x.1 ≤ 10000) ∧ (1 ≤ x.2.1 ∧ x.2.1 ≤ 100) ∧ 1 ≤ x.2.2 ∧ x.2.2 ≤ 100
/-- The error of a layer. -/
def lyE (x : Dv) : Int := fstE [unl (lyOk x) 2, unl (x.2.1 ≤ x.2.2) 9]
theorem lyE_of {x : Dv} {p : Bool} (_h : ¬ fstE [unb p 2, unb (decide (x.2.1 ≤ x.2.2)) 9] = 0) (hp : p = decide (lyOk x)) : lyE x = fstE [unb p 2, unb (decide (x.2.1 ≤ x.2.2)) 9] := by subst hp; rfl
theorem lyE_of0 {x : Dv} {p : Bool} (h : fstE [unb p 2, unb (decide (x.2.1 ≤ x.2.2)) 9] = 0) (hp : p = decide (lyOk x)) : lyE x = 0 := by subst hp; exact h
theorem C111 {n : Int} : PFD Try.prog 111 [vi .i64 n] (vbl (decide (1 ≤ n ∧ n ≤ 100))) := by
  refine pi1 fn111 ?_
  (repeat' first | (refine Owe.same ?_; first | refine Owe.o ?_ | refine Owe.mk ?_ ?_) | (refine Fork.same ?_; (first | refine fkD ?_ ?_ | refine fkN ?_ ?_ | refine fkM ?_ ?_) <;> intro h) | ((first | refine OpsL.same ?_ | refine OpsDL.same ?_); first | refine pK C50 rfl rfl ?_) | refine MvQ.stay ?_)
  (refine rqK rfl ?_; (repeat' first | exact rfl | (refine qS ?_; constructor)))
/-- The error of layers, with an index. -/
def lysE (l : List Dv) : Int × Int := if cntE l.length 6 = 0 then eachE lyE 0 l else (0, cntE l.length 6)
theorem C85 {l : List Dv} : l.length ≤ 1000000 → PFD Try.prog 85 [.c (trs l)] (.tup [vi .i64 (lysE l).1, vi .i64 (lysE l).2]) := fun hl => by
  refine pi2 fn85 ?_
  (repeat' first | (refine Owe.same ?_; first | refine Owe.o ?_ | refine Owe.mk ?_ ?_) | (refine Fork.same ?_; (first | refine fkD ?_ ?_ | refine fkN ?_ ?_ | refine fkM ?_ ?_) <;> intro h) | ((first | refine OpsL.same ?_ | refine OpsDL.same ?_); first | refine pK C110 rfl rfl ?_) | refine MvQ.stay ?_)
  · have h : ¬ cntE l.length 6 = 0 := h
    (refine rqK rfl ?_; (repeat' first | exact rfl | (refine qS ?_; constructor))) <;> rw [lysE, if_neg h]
  · have h : cntE l.length 6 = 0 := h
    have hr : lysE l = eachE lyE 0 l := by rw [lysE, if_pos h]
    rw [hr]
    refine Ops.cs rfl rfl (CallS.of fn112 rfl ?_)
    (repeat' first | (refine Owe.same ?_; first | refine Owe.o ?_ | refine Owe.mk ?_ ?_) | (refine Fork.same ?_; (first | refine fkD ?_ ?_ | refine fkN ?_ ?_ | refine fkM ?_ ?_) <;> intro h) | refine MvQ.stay ?_)
    refine Sat.lp (fun k : Nat => ⟨[(11, vi .i64 k), (10, vi .i64 l.length), (9, .c (trs l)), (1, .c (.fn 113 [0]))], [(0, .box [.fn 111 []])], 1⟩) (fun k => k ≤ l.length ∧ eachE lyE 0 l = eachE lyE k (l.drop k)) (fun k => l.length - k) 0 [] ⟨Nat.zero_le _, rfl⟩ ?_ ?_
    · (refine qis ?_ ?_ <;> (repeat' first | exact rfl | (refine qS ?_; constructor)))
    · intro k hk
      refine Fork.dec (fun hlt => ?_) (fun hlt => ?_)
      · have hlt : k < l.length := by omega
        (repeat' first | (refine Owe.same ?_; first | refine Owe.o ?_ | refine Owe.mk ?_ ?_) | (refine Fork.same ?_; (first | refine fkD ?_ ?_ | refine fkN ?_ ?_ | refine fkM ?_ ?_) <;> intro h) | refine MvQ.stay ?_)
        refine Ops.cs rfl rfl (CallS.of fn113 rfl ?_)
        (repeat' first | (refine Owe.same ?_; first | refine Owe.o ?_ | refine Owe.mk ?_ ?_) | (refine Fork.same ?_; (first | refine fkD ?_ ?_ | refine fkN ?_ ?_ | refine fkM ?_ ?_) <;> intro h) | ((first | refine OpsL.same ?_ | refine OpsDL.same ?_); first | refine pK C50 rfl rfl ?_ | refine pK C111 rfl rfl ?_ | refine pK C49 rfl rfl ?_ | refine pK C47 rfl rfl ?_) | refine MvQ.stay ?_)
        all_goals have e := eachE_drop lyE (0, 0, 0) l k hlt
        all_goals first
          | have e1 := lyE_of0 (x := l.getD (k : Int).toNat (0, 0, 0)) h (by rw [Bool.eq_iff_iff]; (try simp only [decide_eq_true_eq, Bool.false_eq_true, false_iff]); omega)
            have e1 : lyE (l.getD k (0, 0, 0)) = 0 := e1
            rw [if_pos e1, ← hk.2] at e
            refine again (k + 1) [] ⟨by omega, e⟩ (by omega) ?_
            (refine qis ?_ ?_ <;> (repeat' first | exact rfl | (refine qS ?_; constructor)))
          | have e1 := lyE_of (x := l.getD (k : Int).toNat (0, 0, 0)) h (by rw [Bool.eq_iff_iff]; (try simp only [decide_eq_true_eq, Bool.false_eq_true, false_iff]); omega)
            rw [← e1] at h
            have h : ¬ lyE (l.getD k (0, 0, 0)) = 0 := h
            rw [if_neg h, ← hk.2] at e
            (refine rqK rfl ?_; (repeat' first | exact rfl | (refine qS ?_; constructor)))
            · rw [e]
            · rw [e]; exact e1.symm
      · (repeat' first | (refine Owe.same ?_; first | refine Owe.o ?_ | refine Owe.mk ?_ ?_) | (refine Fork.same ?_; (first | refine fkD ?_ ?_ | refine fkN ?_ ?_ | refine fkM ?_ ?_) <;> intro h) | refine MvQ.stay ?_)
        have e : eachE lyE 0 l = (0, 0) := by rw [hk.2, List.drop_of_length_le (by omega)]; rfl
        (refine rqK rfl ?_; (repeat' first | exact rfl | (refine qS ?_; constructor))) <;> rw [e]
theorem C61 {x : Dv} : PFD Try.prog 61 [tr x] (vi .i64 x.2.1) := by
  refine pi1 fn61 ?_
  (repeat' first | (refine Owe.same ?_; first | refine Owe.o ?_ | refine Owe.mk ?_ ?_) | (refine Fork.same ?_; (first | refine fkD ?_ ?_ | refine fkN ?_ ?_ | refine fkM ?_ ?_) <;> intro h) | refine MvQ.stay ?_)
  (refine rqK rfl ?_; (repeat' first | exact rfl | (refine qS ?_; constructor)))
theorem C63 {x : Dv} : PFD Try.prog 63 [tr x] (vi .i64 x.2.2) := by
  refine pi1 fn63 ?_
  (repeat' first | (refine Owe.same ?_; first | refine Owe.o ?_ | refine Owe.mk ?_ ?_) | (refine Fork.same ?_; (first | refine fkD ?_ ?_ | refine fkN ?_ ?_ | refine fkM ?_ ?_) <;> intro h) | refine MvQ.stay ?_)
  (refine rqK rfl ?_; (repeat' first | exact rfl | (refine qS ?_; constructor)))
/-- The error of layers, and of a number with a limit. -/
def lsE (l : List Dv) (n m : Int) : Int := fstE [(lysE l).2, unl (0 ≤ n ∧ n ≤ m) 2]
theorem C59 {l : List Dv} {n m : Int} : l.length ≤ 1000000 → PFD Try.prog 59 [.c (trs l), vi .i64 n, vi .i64 m] (vi .i64 (lsE l n m)) := fun hl => by
  refine pi1 fn59 ?_
  (repeat' first | (refine Owe.same ?_; first | refine Owe.o ?_ | refine Owe.mk ?_ ?_) | (refine Fork.same ?_; (first | refine fkD ?_ ?_ | refine fkN ?_ ?_ | refine fkM ?_ ?_) <;> intro h) | ((first | refine OpsL.same ?_ | refine OpsDL.same ?_); first | refine pK (C85 hl) rfl rfl ?_ | refine pK C50 rfl rfl ?_ | refine pK C49 rfl rfl ?_ | refine pK C47 rfl rfl ?_) | refine MvQ.stay ?_)
  (refine rqK rfl ?_; (repeat' first | exact rfl | (refine qS ?_; constructor)))
theorem C114 {a b : Nat} : (a ≤ 4000000000000000000 ∧ b ≤ 4000000000000000000) → PFD Try.prog 114 [vi .i64 a, vi .i64 b] (vi .i64 (Nat.gcd a b)) := fun ⟨ha, hb⟩ => by
  refine pi1 fn114 ?_
  (repeat' first | (refine Owe.same ?_; first | refine Owe.o ?_ | refine Owe.mk ?_ ?_) | (refine Fork.same ?_; (first | refine fkD ?_ ?_ | refine fkN ?_ ?_ | refine fkM ?_ ?_) <;> intro h) | refine MvQ.stay ?_)
  refine Sat.lp0 (fun p : Nat × Nat => [(0, vi .i64 p.1), (1, vi .i64 p.2)]) (fun p => (p.1 ≤ 4000000000000000000 ∧ p.2 ≤ 4000000000000000000) ∧ Nat.gcd p.1 p.2 = Nat.gcd a b) (fun p => p.2) (a, b) ⟨⟨ha, hb⟩, rfl⟩ (by ((first | refine qen ?_ | refine qvs ?_ | refine qeq ?_ | refine qst ?_ | refine qv ?_ | refine qc ?_ | refine qe ?_ | refine qcs ?_ | skip); (repeat' first | exact rfl | (refine qS ?_; constructor)))) ?_
  intro p hp
  obtain ⟨p1, p2⟩ := p
  simp only at hp ⊢
  (repeat' first | (refine Owe.same ?_; first | refine Owe.o ?_ | refine Owe.mk ?_ ?_) | (refine Fork.same ?_; (first | refine fkD ?_ ?_ | refine fkN ?_ ?_ | refine fkM ?_ ?_) <;> intro h) | refine MvQ.stay ?_)
  · have hm : p1 % p2 < p2 := Nat.mod_lt _ (by omega)
    refine again0 (p2, p1 % p2) ⟨⟨hp.1.2, by omega⟩, ?_⟩ hm (by ((first | refine qen ?_ | refine qvs ?_ | refine qeq ?_ | refine qst ?_ | refine qv ?_ | refine qc ?_ | refine qe ?_ | refine qcs ?_ | skip); (repeat' first | exact rfl | (refine qS ?_; constructor))))
    rw [← hp.2, Nat.gcd_comm p1 p2, Nat.gcd_rec p2 p1, Nat.gcd_comm]
  · have h0 : p2 = 0 := by omega
    subst h0
    rw [← hp.2, Nat.gcd_zero_right]
    (refine rqK rfl ?_; (repeat' first | exact rfl | (refine qS ?_; constructor)))
abbrev Qt := Nat × Nat
abbrev qtv (q : Qt) : V := .agg [int (q.1 : Int), int (q.2 : Int)]
def plusQ (q o : Qt) : Qt :=
  ((q.1 * (o.2 / Nat.gcd q.2 o.2) + o.1 * (q.2 / Nat.gcd q.2 o.2)) / Nat.gcd (q.1 * (o.2 / Nat.gcd q.2 o.2) + o.1 * (q.2 / Nat.gcd q.2 o.2)) (q.2 / Nat.gcd q.2 o.2 * o.2),
   (q.2 / Nat.gcd q.2 o.2 * o.2) / Nat.gcd (q.1 * (o.2 / Nat.gcd q.2 o.2) + o.1 * (q.2 / Nat.gcd q.2 o.2)) (q.2 / Nat.gcd q.2 o.2 * o.2))
theorem C62 {q : Qt} : (0 < q.2 ∧ q.1 ≤ 4000000000000000000) → PFD Try.prog 62 [qtv q] (vi .i64 (q.1 / q.2 : Nat)) := fun hq => by
  refine pi1 fn62 ?_
  have e : (q.1 : Int).tdiv q.2 = ((q.1 / q.2 : Nat) : Int) := rfl
  have b : q.1 / q.2 ≤ q.1 := Nat.div_le_self _ _
  generalize q.1 / q.2 = d at *
  have ho : (q.2 : Int) ≠ 0 ∧ R64 ((q.1 : Int).tdiv q.2) := by rw [e]; exact ⟨by omega, ob⟩
  refine Owe.mk ho ?_
  (refine rqK rfl ?_; (repeat' first | exact rfl | (refine qS ?_; constructor)))
  exact e
theorem C64 {q : Qt} : (0 < q.2 ∧ q.1 ≤ 4000000000000000000 ∧ q.2 ≤ 4000000000000000000) → PFD Try.prog 64 [qtv q] (vi .i64 ((q.1 + q.2 - 1) / q.2 : Nat)) := fun hq => by
  refine pi1 fn64 ?_
  have e0 : ((q.1 : Int) + q.2 - 1) = ((q.1 + q.2 - 1 : Nat) : Int) := by omega
  have e : ((q.1 : Int) + q.2 - 1).tdiv q.2 = (((q.1 + q.2 - 1) / q.2 : Nat) : Int) := by rw [e0]; rfl
  have b : (q.1 + q.2 - 1) / q.2 ≤ q.1 + q.2 - 1 := Nat.div_le_self _ _
  generalize (q.1 + q.2 - 1) / q.2 = d at *
  have ho : (q.2 : Int) ≠ 0 ∧ R64 (((q.1 : Int) + q.2 - 1).tdiv q.2) := by rw [e]; exact ⟨by omega, ob⟩
  (repeat' first | (refine Owe.same ?_; first | refine Owe.o ?_ | refine Owe.mk ?_ ?_) | (refine Fork.same ?_; (first | refine fkD ?_ ?_ | refine fkN ?_ ?_ | refine fkM ?_ ?_) <;> intro h) | refine MvQ.stay ?_)
  (refine rqK rfl ?_; (repeat' first | exact rfl | (refine qS ?_; constructor)))
  exact e
theorem C86 {q o : Qt} : ((0 < q.2 ∧ 0 < o.2) ∧ (q.1 * o.2 + o.1 * q.2 ≤ 4000000000000000000 ∧ q.2 * o.2 ≤ 4000000000000000000) ∧ (q.1 ≤ 4000000000000000000 ∧ o.1 ≤ 4000000000000000000) ∧ q.2 ≤ 4000000000000000000 ∧ o.2 ≤ 4000000000000000000) → PFD Try.prog 86 [qtv q, qtv o] (qtv (plusQ q o)) := fun ⟨hp, hb, hd⟩ => by
  refine pi1 fn86 ?_
  have g0 : 0 < Nat.gcd q.2 o.2 := Nat.gcd_pos_of_pos_left _ hp.1
  have d1 : o.2 / Nat.gcd q.2 o.2 ≤ o.2 := Nat.div_le_self _ _
  have d2 : q.2 / Nat.gcd q.2 o.2 ≤ q.2 := Nat.div_le_self _ _
  have d3 : 0 < q.2 / Nat.gcd q.2 o.2 := Nat.div_pos (Nat.le_of_dvd hp.1 (Nat.gcd_dvd_left _ _)) g0
  have m1 : q.1 * (o.2 / Nat.gcd q.2 o.2) ≤ q.1 * o.2 := Nat.mul_le_mul_left _ d1
  have m2 : o.1 * (q.2 / Nat.gcd q.2 o.2) ≤ o.1 * q.2 := Nat.mul_le_mul_left _ d2
  have m3 : q.2 / Nat.gcd q.2 o.2 * o.2 ≤ q.2 * o.2 := Nat.mul_le_mul_right _ d2
  have m4 : 0 < q.2 / Nat.gcd q.2 o.2 * o.2 := Nat.mul_pos d3 hp.2
  have e1 : (o.2 : Int).tdiv (Nat.gcd q.2 o.2 : Nat) = ((o.2 / Nat.gcd q.2 o.2 : Nat) : Int) := rfl
  have e2 : (q.2 : Int).tdiv (Nat.gcd q.2 o.2 : Nat) = ((q.2 / Nat.gcd q.2 o.2 : Nat) : Int) := rfl
  rw [plusQ]
  have c1 := C114 (a := q.2) (b := o.2) ⟨by omega, by omega⟩
  generalize Nat.gcd q.2 o.2 = g at *
  generalize o.2 / g = x at *
  generalize q.2 / g = y at *
  have M1 : 0 ≤ (q.1 : Int) * (o.2 : Int).tdiv g ∧ (q.1 : Int) * (o.2 : Int).tdiv g = ((q.1 * x : Nat) : Int) := by rw [e1]; exact ⟨Int.mul_nonneg (by omega) (by omega), by rw [Int.natCast_mul]⟩
  have M2 : 0 ≤ (o.1 : Int) * (q.2 : Int).tdiv g ∧ (o.1 : Int) * (q.2 : Int).tdiv g = ((o.1 * y : Nat) : Int) := by rw [e2]; exact ⟨Int.mul_nonneg (by omega) (by omega), by rw [Int.natCast_mul]⟩
  have M3 : 0 ≤ (q.2 : Int).tdiv g * (o.2 : Int) ∧ (q.2 : Int).tdiv g * (o.2 : Int) = ((y * o.2 : Nat) : Int) := by rw [e2]; exact ⟨Int.mul_nonneg (by omega) (by omega), by rw [Int.natCast_mul]⟩
  have c2 := C114 (a := q.1 * x + o.1 * y) (b := y * o.2) ⟨by omega, by omega⟩
  have G0 : 0 < Nat.gcd (q.1 * x + o.1 * y) (y * o.2) := Nat.gcd_pos_of_pos_right _ m4
  have eA : (q.1 : Int) * (o.2 : Int).tdiv g + (o.1 : Int) * (q.2 : Int).tdiv g = ((q.1 * x + o.1 * y : Nat) : Int) := by rw [M1.2, M2.2]; omega
  rw [← eA, ← M3.2] at c2
  have D1 : (q.1 * x + o.1 * y) / Nat.gcd (q.1 * x + o.1 * y) (y * o.2) ≤ q.1 * x + o.1 * y := Nat.div_le_self _ _
  have D2 : y * o.2 / Nat.gcd (q.1 * x + o.1 * y) (y * o.2) ≤ y * o.2 := Nat.div_le_self _ _
  have E1 : ((q.1 : Int) * (o.2 : Int).tdiv g + (o.1 : Int) * (q.2 : Int).tdiv g).tdiv (Nat.gcd (q.1 * x + o.1 * y) (y * o.2) : Nat) = (((q.1 * x + o.1 * y) / Nat.gcd (q.1 * x + o.1 * y) (y * o.2) : Nat) : Int) := by rw [eA]; rfl
  have E2 : ((q.2 : Int).tdiv g * (o.2 : Int)).tdiv (Nat.gcd (q.1 * x + o.1 * y) (y * o.2) : Nat) = ((y * o.2 / Nat.gcd (q.1 * x + o.1 * y) (y * o.2) : Nat) : Int) := by rw [M3.2]; rfl
  generalize Nat.gcd (q.1 * x + o.1 * y) (y * o.2) = G at *
  generalize (q.1 * x + o.1 * y) / G = a at *
  generalize y * o.2 / G = b at *
  (repeat' first | (refine Owe.same ?_; first | refine Owe.o ?_ | refine Owe.mk ?_ ?_) | (refine Fork.same ?_; (first | refine fkD ?_ ?_ | refine fkN ?_ ?_ | refine fkM ?_ ?_) <;> intro h) | refine MvQ.stay ?_)
  ((first | refine OpsL.same ?_ | refine OpsDL.same ?_); refine pK c1 rfl rfl ?_)
  (repeat' first | (refine Owe.same ?_; first | refine Owe.o ?_ | refine Owe.mk ?_ ?_) | (refine Fork.same ?_; (first | refine fkD ?_ ?_ | refine fkN ?_ ?_ | refine fkM ?_ ?_) <;> intro h) | refine MvQ.stay ?_)
  ((first | refine OpsL.same ?_ | refine OpsDL.same ?_); refine pK c2 rfl rfl ?_)
  (repeat' first | (refine Owe.same ?_; first | refine Owe.o ?_ | refine Owe.mk ?_ ?_) | (refine Fork.same ?_; (first | refine fkD ?_ ?_ | refine fkN ?_ ?_ | refine fkM ?_ ?_) <;> intro h) | refine MvQ.stay ?_)
  (refine rqK rfl ?_; (repeat' first | exact rfl | (refine qS ?_; constructor)))
  · exact E1
  · exact E2
end Go.Pw

set_option linter.unusedSimpArgs false
namespace Go.Pw
set_option maxRecDepth 2000
open Go Go.Proofs A1 A2 A3 A4
def lyQ (t v : Int) : Qt := (t.toNat, v.toNat)
/-- The depth after a time, with chosen speeds. -/
def deepS (sp : Dv → Int) (T : Nat) : List Dv → Qt → Nat → Qt
  | [], p, _ => p
  | x :: r, p, top => if r = [] ∨ T * (plusQ p (lyQ x.1 (sp x))).2 < (plusQ p (lyQ x.1 (sp x))).1 then (top * p.2 + (T * p.2 - p.1) * (sp x).toNat, p.2)
    else deepS sp T r (plusQ p (lyQ x.1 (sp x))) (top + x.1.toNat)
structure LyOk (l : List Dv) : Prop where
  n : 0 < l.length ∧ l.length ≤ 6
  ok : ∀ i, i < l.length → lyOk (l.getD i (0, 0, 0)) ∧ (l.getD i (0, 0, 0)).2.1 ≤ (l.getD i (0, 0, 0)).2.2
theorem deepS_drop {sp : Dv → Int} {T : Nat} {l : List Dv} {k : Nat} {p : Qt} {top : Nat} (hk : k < l.length) : deepS sp T (l.drop k) p top =
    (fun x : Dv => if k = l.length - 1 ∨ T * (plusQ p (lyQ x.1 (sp x))).2 < (plusQ p (lyQ x.1 (sp x))).1 then (top * p.2 + (T * p.2 - p.1) * (sp x).toNat, p.2)
    else deepS sp T (l.drop (k + 1)) (plusQ p (lyQ x.1 (sp x))) (top + x.1.toNat)) (l.getD k (0, 0, 0)) := by
  have e : l.drop k = l.getD k (0, 0, 0) :: l.drop (k + 1) := by
    rw [List.getD_eq_getElem?_getD, List.getElem?_eq_getElem hk]; exact List.drop_eq_getElem_cons hk
  rw [e]
  have e2 : (l.drop (k + 1) = []) = (k = l.length - 1) := by
    apply propext; rw [List.drop_eq_nil_iff]; omega
  simp only [deepS, e2]
theorem plusQ_pos {q o : Qt} (hq : 0 < q.2) (ho : 0 < o.2) : 0 < (plusQ q o).2 := by
  have g0 : 0 < Nat.gcd q.2 o.2 := Nat.gcd_pos_of_pos_left _ hq
  have h : 0 < q.2 / Nat.gcd q.2 o.2 * o.2 := Nat.mul_pos (Nat.div_pos (Nat.le_of_dvd hq (Nat.gcd_dvd_left _ _)) g0) ho
  exact Nat.div_pos (Nat.le_of_dvd h (Nat.gcd_dvd_right _ _)) (Nat.gcd_pos_of_pos_right _ h)
theorem plusQ_den {q o : Qt} : (plusQ q o).2 ≤ q.2 * o.2 := Nat.le_trans (Nat.div_le_self _ _) (Nat.mul_le_mul_right _ (Nat.div_le_self _ _))
theorem C60 {g : FuncId} {sp : Dv → Int} (hg : ∀ x : Dv, PFD Try.prog g [tr x] (vi .i64 (sp x))) {l : List Dv} {T : Nat} :
    (LyOk l ∧ (∀ i, i < l.length → 1 ≤ sp (l.getD i (0, 0, 0)) ∧ sp (l.getD i (0, 0, 0)) ≤ 100) ∧ T ≤ 100000) → PFD Try.prog 60 [.c (trs l), vi .i64 T, .c (.fn g [])] (qtv (deepS sp T l (0, 1) 0)) := fun ⟨hO, hs, hT⟩ => by
  have hn := hO.n
  obtain ⟨q, hq⟩ : ∃ q, q = deepS sp T l (0, 1) 0 := ⟨_, rfl⟩
  rw [← hq]
  refine pi1 fn60 ?_
  (repeat' first | (refine Owe.same ?_; first | refine Owe.o ?_ | refine Owe.mk ?_ ?_) | (refine Fork.same ?_; (first | refine fkD ?_ ?_ | refine fkN ?_ ?_ | refine fkM ?_ ?_) <;> intro h) | refine MvQ.stay ?_)
  refine Sat.lp (fun s : Nat × Qt × Nat => ⟨[(16, vi .i64 s.1), (15, vi .i64 l.length), (14, .c (trs l)), (0, .c (trs l)), (1, vi .i64 T), (2, .c (.fn g [])), (8, vi .i64 s.2.2), (6, .c (.bp 0 0)), (7, .c (.bp 1 0))], [(1, .box [int s.2.1.1, int s.2.1.2]), (0, .box [int 0, int 0])], 2⟩)
    (fun s => s.1 ≤ l.length ∧ q = deepS sp T (l.drop s.1) s.2.1 s.2.2 ∧ (0 < s.2.1.2 ∧ s.2.1.2 ≤ 100 ^ s.1) ∧ s.2.1.1 ≤ T * s.2.1.2 ∧ s.2.2 ≤ 10000 * s.1) (fun s => l.length - s.1) (0, (0, 1), 0) [0, 1] ⟨Nat.zero_le _, hq, ⟨by decide, by decide⟩, by simp, by simp⟩ ?_ ?_
  · (refine qis ?_ ?_ <;> (repeat' first | exact rfl | (refine qS ?_; constructor)))
  · intro ⟨k, p, top⟩ hk
    simp only at hk ⊢
    refine Fork.dec (fun hlt => ?_) (fun hlt => ?_)
    · have hlt : k < l.length := by omega
      have hx := (hO.ok k hlt).1
      have hv := hs k hlt
      have e := deepS_drop (sp := sp) (T := T) (p := p) (top := top) hlt
      obtain ⟨p1, p2⟩ := p
      simp only at hk e
      have b0 : p2 ≤ 10000000000 := Nat.le_trans hk.2.2.1.2 (Nat.le_trans (Nat.pow_le_pow_right (by decide) (show k ≤ 5 by omega)) (by decide))
      have b1 : T * p2 ≤ 100000 * 10000000000 := Nat.mul_le_mul hT b0
      have c86 : PFD Try.prog 86 [.agg [int (p1 : Int), int (p2 : Int)], .agg [int (l.getD k (0, 0, 0)).1, int (sp (l.getD k (0, 0, 0)))]] (qtv (plusQ (p1, p2) (lyQ (l.getD k (0, 0, 0)).1 (sp (l.getD k (0, 0, 0)))))) := by
        have h1 := hx.1
        generalize (l.getD k (0, 0, 0)).1 = a at *
        generalize sp (l.getD k (0, 0, 0)) = v at *
        obtain ⟨a, rfl⟩ : ∃ n : Nat, a = n := ⟨a.toNat, by omega⟩
        obtain ⟨v, rfl⟩ : ∃ n : Nat, v = n := ⟨v.toNat, by omega⟩
        have m1 : p1 * v ≤ 1000000000000000 * 100 := Nat.mul_le_mul (by omega) (by omega)
        have m2 : a * p2 ≤ 10000 * 10000000000 := Nat.mul_le_mul (by omega) b0
        have m3 : p2 * v ≤ 10000000000 * 100 := Nat.mul_le_mul b0 (by omega)
        exact C86 (q := (p1, p2)) (o := (a, v)) ⟨⟨hk.2.2.1.1, by simp only; omega⟩, ⟨by simp only; omega, by simp only; omega⟩, ⟨by simp only; omega, by simp only; omega⟩, by simp only; omega, by simp only; omega⟩
      have r1 := plusQ_pos (q := (p1, p2)) (o := lyQ (l.getD k (0, 0, 0)).1 (sp (l.getD k (0, 0, 0)))) hk.2.2.1.1 (by simp only [lyQ]; omega)
      have r2 := plusQ_den (q := (p1, p2)) (o := lyQ (l.getD k (0, 0, 0)).1 (sp (l.getD k (0, 0, 0))))
      have r3 : p2 * (lyQ (l.getD k (0, 0, 0)).1 (sp (l.getD k (0, 0, 0)))).2 ≤ p2 * 100 := Nat.mul_le_mul_left _ (by simp only [lyQ]; omega)
      have r4 : p2 * 100 ≤ 100 ^ (k + 1) := by rw [Nat.pow_succ]; exact Nat.mul_le_mul_right _ hk.2.2.1.2
      obtain ⟨⟨t1, t2⟩, ht⟩ : ∃ t, plusQ (p1, p2) (lyQ (l.getD k (0, 0, 0)).1 (sp (l.getD k (0, 0, 0)))) = t := ⟨_, rfl⟩
      rw [ht] at c86 r1 r2 e
      simp only at r1 r2 r3 e
      have b2 : T * t2 ≤ 100000 * 1000000000000 := Nat.mul_le_mul hT (by omega)
      have b3 : top * p2 ≤ 60000 * 10000000000 := Nat.mul_le_mul (by omega) b0
      have b4 : 0 ≤ ((T : Int) * p2 - p1) * sp (l.getD k (0, 0, 0)) ∧ ((T : Int) * p2 - p1) * sp (l.getD k (0, 0, 0)) ≤ 1000000000000000 * 100 := by
        have hd : 0 ≤ (T : Int) * p2 - p1 ∧ (T : Int) * p2 - p1 ≤ 1000000000000000 := by omega
        exact ⟨Int.mul_nonneg hd.1 (by omega), Int.mul_le_mul hd.2 hv.2 (by omega) (by omega)⟩
      have b5 : ((T : Int) * p2 - p1) * sp (l.getD k (0, 0, 0)) = (((T * p2 - p1) * (sp (l.getD k (0, 0, 0))).toNat : Nat) : Int) := by
        rw [Int.natCast_mul, Int.toNat_of_nonneg (by omega)]; congr 1; omega
      have b6 : (top : Int) * p2 + ((T : Int) * p2 - p1) * sp (l.getD k (0, 0, 0)) = ((top * p2 + (T * p2 - p1) * (sp (l.getD k (0, 0, 0))).toNat : Nat) : Int) := by rw [b5]; omega
      have h1 := hx.1
      (repeat' first | (refine Owe.same ?_; first | refine Owe.o ?_ | refine Owe.mk ?_ ?_) | (refine Fork.same ?_; (first | refine fkD ?_ ?_ | refine fkN ?_ ?_ | refine fkM ?_ ?_) <;> intro h) | ((first | refine OpsL.same ?_ | refine OpsDL.same ?_); first | refine pK (hg _) rfl rfl ?_ | refine pK c86 rfl rfl ?_) | refine MvQ.stay ?_)
      · rw [if_pos (.inl (by omega)), ← hk.2.1] at e
        subst e
        (refine rqK rfl ?_; (repeat' first | exact rfl | (refine qS ?_; constructor)))
        exact b6
      · have h : (T : Int) * t2 < t1 := h
        have h : T * t2 < t1 := by exact_mod_cast h
        rw [if_pos (.inr h), ← hk.2.1] at e
        subst e
        (refine rqK rfl ?_; (repeat' first | exact rfl | (refine qS ?_; constructor)))
        exact b6
      · rename_i hkl
        have h : ¬ (T : Int) * t2 < t1 := h
        have h : ¬ T * t2 < t1 := fun hh => h (by exact_mod_cast hh)
        rw [if_neg (by rintro (h2 | h2) <;> omega), ← hk.2.1] at e
        refine again (k + 1, (t1, t2), top + (l.getD k (0, 0, 0)).1.toNat) [0, 1] ⟨by omega, e, ⟨by simp only; omega, by simp only; omega⟩, by simp only; omega, by simp only; omega⟩ (by omega) ?_
        (refine qis ?_ ?_ <;> (repeat' first | exact rfl | (refine qS ?_; constructor)))
        show (top : Int) + (l.getD k (0, 0, 0)).1 = ((top + (l.getD k (0, 0, 0)).1.toNat : Nat) : Int)
        omega
    · (repeat' first | (refine Owe.same ?_; first | refine Owe.o ?_ | refine Owe.mk ?_ ?_) | (refine Fork.same ?_; (first | refine fkD ?_ ?_ | refine fkN ?_ ?_ | refine fkM ?_ ?_) <;> intro h) | refine MvQ.stay ?_)
      have e : q = p := by rw [hk.2.1, List.drop_of_length_le (by omega)]; rfl
      subst e
      (refine rqK rfl ?_; (repeat' first | exact rfl | (refine qS ?_; constructor)))
def lo (x : Dv) : Int := x.2.1
def hi (x : Dv) : Int := x.2.2
/-- The range of depths after a time, and that of times to a depth. -/
def dpS (l : List Dv) (T : Int) : Pr × Int := if lsE l T 100000 = 0 then ((((deepS lo T.toNat l (0, 1) 0).1 / (deepS lo T.toNat l (0, 1) 0).2 : Nat), (((deepS hi T.toNat l (0, 1) 0).1 + (deepS hi T.toNat l (0, 1) 0).2 - 1) / (deepS hi T.toNat l (0, 1) 0).2 : Nat)), 0) else ((0, 0), lsE l T 100000)
theorem lyE_ok {x : Dv} : lyE x = 0 ↔ lyOk x ∧ x.2.1 ≤ x.2.2 := by
  rw [lyE, fst2, unl0 (by decide), unl0 (by decide)]
theorem lysE_ok {l : List Dv} (h : (lysE l).2 = 0) : LyOk l := by
  rw [lysE] at h
  split at h
  · rename_i h0
    rw [cntE, fst2, unl0 (by decide), unl0 (by decide)] at h0
    refine ⟨by omega, fun i hi => lyE_ok.1 ?_⟩
    exact eachE_ok.1 h _ (by rw [List.getD_eq_getElem?_getD, List.getElem?_eq_getElem hi]; exact List.getElem_mem hi)
  · rename_i h0; exact absurd h h0
theorem deepS_bd {sp : Dv → Int} {T : Nat} (hT : T ≤ 100000) : ∀ (l : List Dv) (k : Nat) (p : Qt) (top : Nat), (∀ x ∈ l, (1 ≤ x.1 ∧ x.1 ≤ 10000) ∧ 1 ≤ sp x ∧ sp x ≤ 100) → k + l.length ≤ 6 → 0 < p.2 → p.2 ≤ 100 ^ k → p.1 ≤ T * p.2 → top ≤ 10000 * k →
    0 < (deepS sp T l p top).2 ∧ (deepS sp T l p top).2 ≤ 1000000000000 ∧ (deepS sp T l p top).1 ≤ 200000000000000000
  | [], k, p, top, _, hk, h0, h1, h2, h3 => by
    simp only [List.length_nil] at hk
    have b0 : p.2 ≤ 1000000000000 := Nat.le_trans h1 (Nat.le_trans (Nat.pow_le_pow_right (by decide) (show k ≤ 6 by omega)) (by decide))
    have b1 : T * p.2 ≤ 100000 * 1000000000000 := Nat.mul_le_mul hT b0
    simp only [deepS]; omega
  | x :: r, k, p, top, ho, hk, h0, h1, h2, h3 => by
    simp only [List.length_cons] at hk
    have hx := ho x (.head _)
    have b0 : p.2 ≤ 10000000000 := Nat.le_trans h1 (Nat.le_trans (Nat.pow_le_pow_right (by decide) (show k ≤ 5 by omega)) (by decide))
    have b1 : T * p.2 ≤ 100000 * 10000000000 := Nat.mul_le_mul hT b0
    rw [deepS]
    split
    · have b3 : top * p.2 ≤ 60000 * 10000000000 := Nat.mul_le_mul (by omega) b0
      have b4 : (T * p.2 - p.1) * (sp x).toNat ≤ 1000000000000000 * 100 := Nat.mul_le_mul (by omega) (by omega)
      refine ⟨h0, ?_, ?_⟩ <;> simp only <;> omega
    · rename_i hn
      have r1 := plusQ_pos (q := p) (o := lyQ x.1 (sp x)) h0 (by simp only [lyQ]; omega)
      have r2 := plusQ_den (q := p) (o := lyQ x.1 (sp x))
      have r3 : p.2 * (lyQ x.1 (sp x)).2 ≤ p.2 * 100 := Nat.mul_le_mul_left _ (by simp only [lyQ]; omega)
      have r4 : p.2 * 100 ≤ 100 ^ (k + 1) := by rw [Nat.pow_succ]; exact Nat.mul_le_mul_right _ h1
      exact deepS_bd hT r (k + 1) _ _ (fun y hy => ho y (.tail _ hy)) (by omega) r1 (by omega) (Nat.le_of_not_lt fun h => hn (.inr h)) (by omega)
theorem LyOk.mem {l : List Dv} (hO : LyOk l) {x : Dv} (hx : x ∈ l) : lyOk x ∧ x.2.1 ≤ x.2.2 := by
  obtain ⟨i, hi, rfl⟩ := List.mem_iff_getElem.1 hx
  have := hO.ok i hi
  rwa [List.getD_eq_getElem?_getD, List.getElem?_eq_getElem hi] at this
theorem C27 {l : List Dv} {T : Int} : l.length ≤ 1000000 → PFD Try.prog 27 [.c (trs l), vi .i64 T] (.tup [pr (dpS l T).1, vi .i64 (dpS l T).2]) := fun hl => by
  by_cases h0 : lsE l T 100000 = 0
  · rw [dpS, if_pos h0]
    have hh := fst2.1 (show fstE [(lysE l).2, unl (0 ≤ T ∧ T ≤ 100000) 2] = 0 from h0)
    have hO := lysE_ok hh.1
    have hT := (unl0 (by decide)).1 hh.2
    have hn := hO.n
    have c1 := C60 (g := 61) (sp := lo) (fun x => C61) (l := l) (T := T.toNat) ⟨hO, fun i hi => by have := hO.ok i hi; simp only [lo]; omega, by omega⟩
    have c2 := C60 (g := 63) (sp := hi) (fun x => C63) (l := l) (T := T.toNat) ⟨hO, fun i hi => by have := hO.ok i hi; simp only [Pw.hi]; omega, by omega⟩
    have d1 := deepS_bd (sp := lo) (T := T.toNat) (by omega) l 0 (0, 1) 0 (fun x hx => by have := hO.mem hx; simp only [lo]; omega) (by omega) (by decide) (by decide) (by simp) (by simp)
    have d2 := deepS_bd (sp := hi) (T := T.toNat) (by omega) l 0 (0, 1) 0 (fun x hx => by have := hO.mem hx; simp only [hi]; omega) (by omega) (by decide) (by decide) (by simp) (by simp)
    rw [show ((T.toNat : Nat) : Int) = T by omega] at c1 c2
    generalize deepS lo T.toNat l (0, 1) 0 = p at *
    generalize deepS hi T.toNat l (0, 1) 0 = q at *
    refine pi2 fn27 ?_
    (repeat' first | (refine Owe.same ?_; first | refine Owe.o ?_ | refine Owe.mk ?_ ?_) | (refine Fork.same ?_; (first | refine fkD ?_ ?_ | refine fkN ?_ ?_ | refine fkM ?_ ?_) <;> intro h) | ((first | refine OpsL.same ?_ | refine OpsDL.same ?_); first | refine oK (C59 hl) rfl rfl rfl ?_ | refine oK c1 rfl rfl rfl ?_ | refine oK c2 rfl rfl rfl ?_ | refine oK C62 rfl rfl rfl ?_ | refine oK C64 rfl rfl rfl ?_) | refine MvQ.stay ?_)
    · exact absurd h0 h
    · (refine rqK rfl ?_; (repeat' first | exact rfl | (refine qS ?_; constructor)))
  · rw [dpS, if_neg h0]
    refine pi2 fn27 ?_
    (repeat' first | (refine Owe.same ?_; first | refine Owe.o ?_ | refine Owe.mk ?_ ?_) | (refine Fork.same ?_; (first | refine fkD ?_ ?_ | refine fkN ?_ ?_ | refine fkM ?_ ?_) <;> intro h) | ((first | refine OpsL.same ?_ | refine OpsDL.same ?_); first | refine pK (C59 hl) rfl rfl ?_) | refine MvQ.stay ?_)
    · (refine rqK rfl ?_; (repeat' first | exact rfl | (refine qS ?_; constructor)))
    · exact absurd h h0
end Go.Pw

set_option linter.unusedSimpArgs false
namespace Go.Pw
/-- What a function says along a range of numbers, one after the other. -/
def catR {α : Type} (f : Int → List α) (a : Int) : Nat → List α
  | 0 => []
  | k + 1 => catR f a k ++ f (a + k)
section
variable {α β : Type} {f g : Int → List α}
theorem catR_len {a : Int} {c k : Nat} (h : ∀ x, (f x).length ≤ c) : (catR f a k).length ≤ k * c := by
  induction k with
  | zero => exact Nat.zero_le _
  | succ k ih => rw [catR, List.length_append, Nat.succ_mul]; have := h (a + k); omega
theorem catR_mem {a : Int} {k : Nat} {x : α} : x ∈ catR f a k ↔ ∃ i : Nat, i < k ∧ x ∈ f (a + i) := by
  induction k with
  | zero => simp [catR]
  | succ k ih =>
    rw [catR, List.mem_append, ih]
    constructor
    · rintro (⟨i, hi, h⟩ | h)
      · exact ⟨i, by omega, h⟩
      · exact ⟨k, by omega, h⟩
    · rintro ⟨i, hi, h⟩
      by_cases hk : i = k
      · subst hk; exact .inr h
      · exact .inl ⟨i, by omega, h⟩
end
abbrev Cel := Int × Int
abbrev Ry := Cel × Cel × Bool
def Ry.dx (r : Ry) : Int := r.2.1.1 - r.1.1
def Ry.dy (r : Ry) : Int := r.2.1.2 - r.1.2
def Ry.mid (r : Ry) (x y : Int) : Int := r.dx * 2 * (y - r.1.2) - r.dy * 2 * (x - r.1.1)
def sz (n : Int) : Int := max n (-n)
/-- In the rectangle of both ends a ray crosses this cell. -/
def crs (r : Ry) (x y : Int) : Bool := decide (sz (r.mid x y) < sz r.dx + sz r.dy ∨ (r.dx = 0 ∧ r.dy = 0))
def crC (r : Ry) (y x : Int) : List Cel := if crs r x y then [(x, y)] else []
def Ry.x0 (r : Ry) : Int := min r.1.1 r.2.1.1
def Ry.y0 (r : Ry) : Int := min r.1.2 r.2.1.2
def Ry.wn (r : Ry) : Nat := (sz r.dx).toNat + 1
def Ry.hn (r : Ry) : Nat := (sz r.dy).toNat + 1
def crR (r : Ry) (y : Int) : List Cel := catR (crC r y) r.x0 r.wn
/-- The cells that a ray crosses. -/
def crS (r : Ry) : List Cel := catR (crR r) r.y0 r.hn
def inG (c : Cel) (w h : Int) : Prop := (0 ≤ c.1 ∧ c.1 ≤ w - 1) ∧ 0 ≤ c.2 ∧ c.2 ≤ h - 1
instance (c : Cel) (w h : Int) : Decidable (inG c w h) := by unfold inG; infer_instance
def ryOk (r : Ry) (w h : Int) : Prop := inG r.1 w h ∧ inG r.2.1 w h
instance (r : Ry) (w h : Int) : Decidable (ryOk r w h) := by unfold ryOk; infer_instance
theorem crC_len (r : Ry) (y x : Int) : (crC r y x).length ≤ 1 := by rw [crC]; split <;> simp
theorem crR_len {r : Ry} {y : Int} : (crR r y).length ≤ r.wn := by have := catR_len (a := r.x0) (k := r.wn) (crC_len r y); rw [crR]; omega
theorem wn_le {r : Ry} {w h : Int} (ho : ryOk r w h) : (r.wn : Int) ≤ w := by
  have h1 := ho.1.1; have h2 := ho.2.1
  rw [Ry.wn, Ry.dx, sz]; omega
theorem hn_le {r : Ry} {w h : Int} (ho : ryOk r w h) : (r.hn : Int) ≤ h := by
  have h1 := ho.1.2; have h2 := ho.2.2
  rw [Ry.hn, Ry.dy, sz]; omega
theorem mem_crC {r : Ry} {x y : Int} {c : Cel} : c ∈ crC r y x ↔ crs r x y = true ∧ c = (x, y) := by
  rw [crC]; split <;> simp_all
/-- Every cell that is crossed lies in the rectangle of both ends. -/
theorem crS_mem {r : Ry} {c : Cel} : c ∈ crS r ↔ crs r c.1 c.2 = true ∧ (r.x0 ≤ c.1 ∧ c.1 < r.x0 + r.wn) ∧ r.y0 ≤ c.2 ∧ c.2 < r.y0 + r.hn := by
  rw [crS, catR_mem]
  constructor
  · rintro ⟨i, hi, h⟩
    obtain ⟨j, hj, h1⟩ := catR_mem.1 h
    obtain ⟨h2, rfl⟩ := mem_crC.1 h1
    exact ⟨h2, ⟨by simp only; omega, by simp only; omega⟩, by simp only; omega, by simp only; omega⟩
  · rintro ⟨h, hx, hy⟩
    refine ⟨(c.2 - r.y0).toNat, by omega, catR_mem.2 ⟨(c.1 - r.x0).toNat, by omega, mem_crC.2 ?_⟩⟩
    have e1 : r.x0 + ((c.1 - r.x0).toNat : Int) = c.1 := by omega
    have e2 : r.y0 + ((c.2 - r.y0).toNat : Int) = c.2 := by omega
    rw [e1, e2]; exact ⟨h, rfl⟩
theorem crS_len {r : Ry} : (crS r).length ≤ r.hn * r.wn := catR_len fun _ => crR_len
end Go.Pw

set_option linter.unusedSimpArgs false
namespace Go.Pw
set_option maxRecDepth 2000
open Go Go.Proofs A1 A2 A3 A4
abbrev r5 (r : Ry) : List D := [dI r.1.1, dI r.1.2, dI r.2.1.1, dI r.2.1.2, .v (.bool r.2.2)]
abbrev ryd : Ry := ((0, 0), (0, 0), false)
abbrev rys (l : List Ry) : C := slv 5 r5 ryd l
abbrev ryv (r : Ry) : V := .agg [int r.1.1, int r.1.2, int r.2.1.1, int r.2.1.2, .d (.v (.bool r.2.2))]
theorem C79 {c : Pr} {w g : Int} : ((-1000000 ≤ w ∧ w ≤ 1000000) ∧ -1000000 ≤ g ∧ g ≤ 1000000) → PFD Try.prog 79 [pr c, vi .i64 w, vi .i64 g] (vbl (decide (inG c w g))) := fun ⟨hw, hh⟩ => by
  refine pi1 fn79 ?_
  (repeat' first | (refine Owe.same ?_; first | refine Owe.o ?_ | refine Owe.mk ?_ ?_) | (refine Fork.same ?_; (first | refine fkD ?_ ?_ | refine fkN ?_ ?_ | refine fkM ?_ ?_) <;> intro h) | ((first | refine OpsL.same ?_ | refine OpsDL.same ?_); first | refine pK C50 rfl rfl ?_) | refine MvQ.stay ?_)
  · (refine rqK rfl ?_; (repeat' first | exact rfl | (refine qS ?_; constructor)))
    exact decide_eq_decide.2 ⟨fun hh => ⟨h, hh⟩, fun hh => hh.2⟩
  · (refine rqK rfl ?_; (repeat' first | exact rfl | (refine qS ?_; constructor)))
    rw [decide_eq_false]; exact fun hh => h hh.1
theorem C43 {r : Ry} {w g : Int} : ((-1000000 ≤ w ∧ w ≤ 1000000) ∧ -1000000 ≤ g ∧ g ≤ 1000000) → PFD Try.prog 43 [ryv r, vi .i64 w, vi .i64 g] (vi .i64 (unl (ryOk r w g) 6)) := fun ⟨hw, hh⟩ => by
  refine pi1 fn43 ?_
  (repeat' first | (refine Owe.same ?_; first | refine Owe.o ?_ | refine Owe.mk ?_ ?_) | (refine Fork.same ?_; (first | refine fkD ?_ ?_ | refine fkN ?_ ?_ | refine fkM ?_ ?_) <;> intro h) | ((first | refine OpsL.same ?_ | refine OpsDL.same ?_); first | refine pK C79 rfl rfl ?_ | refine pK C49 rfl rfl ?_) | refine MvQ.stay ?_)
  · (refine rqK rfl ?_; (repeat' first | exact rfl | (refine qS ?_; constructor)))
    rw [unl]; congr 1; exact decide_eq_decide.2 ⟨fun hh => ⟨h, hh⟩, fun hh => hh.2⟩
  · (refine rqK rfl ?_; (repeat' first | exact rfl | (refine qS ?_; constructor)))
    rw [unl, decide_eq_false]; exact fun hh => h hh.1
theorem mulb {a b : Int} (ha : -12 ≤ a ∧ a ≤ 12) (hb : -12 ≤ b ∧ b ≤ 12) : -288 ≤ a * 2 * b ∧ a * 2 * b ≤ 288 := by
  have h1 : (a * 2) * b ≤ 288 ∧ -288 ≤ (a * 2) * b := by
    have e : (a * 2) * b = 2 * (a * b) := by rw [Int.mul_comm a 2, Int.mul_assoc]
    rw [e]
    have : a.natAbs * b.natAbs ≤ 12 * 12 := Nat.mul_le_mul (by omega) (by omega)
    rw [← Int.natAbs_mul] at this
    omega
  omega
theorem C44 {r : Ry} : ryOk r 12 12 → PFD Try.prog 44 [ryv r] (.c (prs (crS r))) := fun hO => by
  obtain ⟨⟨fx, fy⟩, ⟨tx, ty⟩, b⟩ := r
  obtain ⟨⟨hx1, hy1⟩, hx2, hy2⟩ := hO
  simp only at hx1 hy1 hx2 hy2
  have hwn : ((Ry.wn ((fx, fy), (tx, ty), b) : Nat) : Int) = max fx tx - min fx tx + 1 := by simp only [Ry.wn, Ry.dx, sz]; omega
  have hhn : ((Ry.hn ((fx, fy), (tx, ty), b) : Nat) : Int) = max fy ty - min fy ty + 1 := by simp only [Ry.hn, Ry.dy, sz]; omega
  obtain ⟨S, hS⟩ : ∃ S, S = crS ((fx, fy), (tx, ty), b) := ⟨_, rfl⟩
  rw [← hS]
  refine pi1 fn44 ?_
  (repeat' first | (refine Owe.same ?_; first | refine Owe.o ?_ | refine Owe.mk ?_ ?_) | (refine Fork.same ?_; (first | refine fkD ?_ ?_ | refine fkN ?_ ?_ | refine fkM ?_ ?_) <;> intro h) | refine MvQ.stay ?_)
  refine Sat.nilS 5 23 2 (fun i => r2 (([] : List Pr).getD i (0, 0))) rfl ?_
  refine Sat.lp (fun s : Int × List Pr => ⟨[(6, vi .i64 s.1), (3, vi .i64 (tx - fx)), (4, vi .i64 (ty - fy)), (1, .c (.rp [dI fx, dI fy, dI tx, dI ty, .v (.bool b)])), (5, .c (.ms 0 s.2.length))], [(0, rowv 23 2 r2 (0, 0) s.2)], 1⟩)
    (fun s => (min fy ty ≤ s.1 ∧ s.1 ≤ max fy ty + 1) ∧ s.2 = catR (crR ((fx, fy), (tx, ty), b)) (min fy ty) (s.1 - min fy ty).toNat) (fun s => (max fy ty + 1 - s.1).toNat) (min fy ty, []) [16] ?_ ?_ ?_
  · refine ⟨by simp only; omega, ?_⟩
    simp only [Int.sub_self]; rfl
  · (refine qis ?_ ?_ <;> (repeat' first | exact rfl | (refine qS ?_; constructor)))
  · intro ⟨y, out⟩ hk
    simp only at hk ⊢
    have hol : out.length ≤ (y - min fy ty).toNat * Ry.wn ((fx, fy), (tx, ty), b) := by rw [hk.2]; exact catR_len fun _ => crR_len
    have hol2 : (y - min fy ty).toNat * Ry.wn ((fx, fy), (tx, ty), b) ≤ 12 * 12 := Nat.mul_le_mul (by omega) (by omega)
    (repeat' first | (refine Owe.same ?_; first | refine Owe.o ?_ | refine Owe.mk ?_ ?_) | (refine Fork.same ?_; (first | refine fkD ?_ ?_ | refine fkN ?_ ?_ | refine fkM ?_ ?_) <;> intro h) | refine MvQ.stay ?_)
    · refine Sat.lp (fun s : Int × List Pr => ⟨[(7, vi .i64 s.1), (6, vi .i64 y), (3, vi .i64 (tx - fx)), (4, vi .i64 (ty - fy)), (1, .c (.rp [dI fx, dI fy, dI tx, dI ty, .v (.bool b)])), (5, .c (.ms 0 s.2.length))], [(0, rowv 23 2 r2 (0, 0) s.2)], 1⟩)
        (fun s => (min fx tx ≤ s.1 ∧ s.1 ≤ max fx tx + 1) ∧ s.2 = out ++ catR (crC ((fx, fy), (tx, ty), b) y) (min fx tx) (s.1 - min fx tx).toNat) (fun s => (max fx tx + 1 - s.1).toNat) (min fx tx, out) [0] ?_ ?_ ?_
      · refine ⟨by simp only; omega, ?_⟩
        simp only [Int.sub_self]; exact (List.append_nil _).symm
      · (refine qis ?_ ?_ <;> (repeat' first | exact rfl | (refine qS ?_; constructor)))
      · intro ⟨x, o⟩ hj
        simp only at hj ⊢
        have hjl := catR_len (f := crC ((fx, fy), (tx, ty), b) y) (a := min fx tx) (k := (x - min fx tx).toNat) (crC_len _ _)
        have hjl : o.length ≤ 200 := by rw [hj.2, List.length_append]; omega
        have hs : catR (crC ((fx, fy), (tx, ty), b) y) (min fx tx) (x + 1 - min fx tx).toNat = catR (crC ((fx, fy), (tx, ty), b) y) (min fx tx) (x - min fx tx).toNat ++ crC ((fx, fy), (tx, ty), b) y x := by
          have e : (x + 1 - min fx tx).toNat = (x - min fx tx).toNat + 1 := by omega
          rw [e, catR]; congr 2; omega
        have m1 := mulb (a := tx - fx) (b := y - fy) (by omega) (by omega)
        have m2 := mulb (a := ty - fy) (b := x - fx) (by omega) (by omega)
        (repeat' first | (refine Owe.same ?_; first | refine Owe.o ?_ | refine Owe.mk ?_ ?_) | (refine Fork.same ?_; (first | refine fkD ?_ ?_ | refine fkN ?_ ?_ | refine fkM ?_ ?_) <;> intro h) | ((first | refine OpsL.same ?_ | refine OpsDL.same ?_); first | refine pK C80 rfl rfl ?_) | refine MvQ.stay ?_)
        · have hc : crC ((fx, fy), (tx, ty), b) y x = [(x, y)] := by
            rw [crC, if_pos]; rw [crs]; exact decide_eq_true (.inl h)
          rw [hc] at hs
          refine again (x + 1, o ++ [(x, y)]) [1] ⟨by simp only; omega, by simp only; rw [hs, hj.2, List.append_assoc]⟩ (by simp only; omega) ?_
          (refine qis ?_ ?_ <;> (repeat' first | exact rfl | (refine qS ?_; constructor)))
          simp
        · rename_i h0 h1 h2
          have hc : crC ((fx, fy), (tx, ty), b) y x = [(x, y)] := by
            rw [crC, if_pos]; rw [crs]; exact decide_eq_true (.inr ⟨h2, h⟩)
          rw [hc] at hs
          refine again (x + 1, o ++ [(x, y)]) [1] ⟨by simp only; omega, by simp only; rw [hs, hj.2, List.append_assoc]⟩ (by simp only; omega) ?_
          (refine qis ?_ ?_ <;> (repeat' first | exact rfl | (refine qS ?_; constructor)))
          simp
        · rename_i h0 h1 h2
          have hc : crC ((fx, fy), (tx, ty), b) y x = [] := by
            rw [crC, if_neg]; rw [crs]; exact fun hh => (of_decide_eq_true hh).elim h1 fun hq => h hq.2
          rw [hc, List.append_nil] at hs
          refine again (x + 1, o) [0] ⟨by simp only; omega, by simp only; rw [hs, hj.2]⟩ (by simp only; omega) ?_
          (refine qis ?_ ?_ <;> (repeat' first | exact rfl | (refine qS ?_; constructor)))
        · rename_i h0 h1
          have hc : crC ((fx, fy), (tx, ty), b) y x = [] := by
            rw [crC, if_neg]; rw [crs]; exact fun hh => (of_decide_eq_true hh).elim h1 fun hq => h hq.1
          rw [hc, List.append_nil] at hs
          refine again (x + 1, o) [0] ⟨by simp only; omega, by simp only; rw [hs, hj.2]⟩ (by simp only; omega) ?_
          (refine qis ?_ ?_ <;> (repeat' first | exact rfl | (refine qS ?_; constructor)))
        · have e : (x - min fx tx).toNat = Ry.wn ((fx, fy), (tx, ty), b) := by omega
          have e2 : (y + 1 - min fy ty).toNat = (y - min fy ty).toNat + 1 := by omega
          refine again (y + 1, o) [0] ⟨by simp only; omega, ?_⟩ (by simp only; omega) ?_
          · simp only
            rw [e2, catR, hj.2, hk.2, e]
            congr 1
            have : min fy ty + ((y - min fy ty).toNat : Int) = y := by omega
            rw [this]; rfl
          · (refine qis ?_ ?_ <;> (repeat' first | exact rfl | (refine qS ?_; constructor)))
    · have e : out = S := by
        rw [hk.2, hS, crS]
        have : (y - min fy ty).toNat = Ry.hn ((fx, fy), (tx, ty), b) := by omega
        rw [this]; rfl
      subst e
      (repeat' first | (refine Owe.same ?_; first | refine Owe.o ?_ | refine Owe.mk ?_ ?_) | (refine Fork.same ?_; (first | refine fkD ?_ ?_ | refine fkN ?_ ?_ | refine fkM ?_ ?_) <;> intro h) | refine MvQ.stay ?_)
      refine rqF 0 _ rfl rfl rfl ?_; (repeat' first | exact rfl | (refine qS ?_; constructor))
end Go.Pw

set_option linter.unusedSimpArgs false
namespace Go.Pw
set_option maxRecDepth 2000
open Go Go.Proofs A1 A2 A3 A4
abbrev Sc := Int × Int × List Ry
abbrev rysD (l : List Ry) : D := .sl 5 l.length fun i => r5 (l.getD i ryd)
abbrev scD (s : Sc) : List D := [dI s.1, dI s.2.1, rysD s.2.2]
abbrev scv (s : Sc) : V := .agg [int s.1, int s.2.1, rys s.2.2]
theorem C122 {n : Int} : PFD Try.prog 122 [vi .i64 n] (vbl (decide (1 ≤ n ∧ n ≤ 12))) := by
  refine pi1 fn122 ?_
  (repeat' first | (refine Owe.same ?_; first | refine Owe.o ?_ | refine Owe.mk ?_ ?_) | (refine Fork.same ?_; (first | refine fkD ?_ ?_ | refine fkN ?_ ?_ | refine fkM ?_ ?_) <;> intro h) | ((first | refine OpsL.same ?_ | refine OpsDL.same ?_); first | refine pK C50 rfl rfl ?_) | refine MvQ.stay ?_)
  (refine rqK rfl ?_; (repeat' first | exact rfl | (refine qS ?_; constructor)))
/-- The error of columns and rows, and of the number of rays. -/
def gridE (w h : Int) (n : Int) : Int := fstE [unl ((1 ≤ w ∧ w ≤ 12) ∧ 1 ≤ h ∧ h ≤ 12) 2, unl (n ≤ 10) 8]
theorem unl_of {p : Prop} [Decidable p] {b : Bool} {e : Int} (h : b = decide p) : unb b e = unl p e := by subst h; rfl
theorem C101 {w g n : Int} : PFD Try.prog 101 [vi .i64 w, vi .i64 g, vi .i64 n] (vi .i64 (gridE w g n)) := by
  refine pi1 fn101 ?_
  (repeat' first | (refine Owe.same ?_; first | refine Owe.o ?_ | refine Owe.mk ?_ ?_) | (refine Fork.same ?_; (first | refine fkD ?_ ?_ | refine fkN ?_ ?_ | refine fkM ?_ ?_) <;> intro h) | ((first | refine OpsL.same ?_ | refine OpsDL.same ?_); first | refine pK C122 rfl rfl ?_ | refine pK C49 rfl rfl ?_ | refine pK C47 rfl rfl ?_) | refine MvQ.stay ?_)
  · (refine rqK rfl ?_; (repeat' first | exact rfl | (refine qS ?_; constructor)))
    rw [gridE, ← unl_of (decide_eq_decide.2 ⟨fun hh => ⟨h, hh⟩, fun hh => hh.2⟩)]
  · (refine rqK rfl ?_; (repeat' first | exact rfl | (refine qS ?_; constructor)))
    rw [gridE, ← unl_of (decide_eq_false fun hh => h hh.1).symm]
theorem C116 {i : Int} {r : Ry} {w g : Int} {d : D} : ((-1000000 ≤ w ∧ w ≤ 1000000) ∧ -1000000 ≤ g ∧ g ≤ 1000000) → PFD Try.prog 116 [vi .i64 i, ryv r, .c (.rp [dI w, dI g, d])] (vi .i64 (unl (ryOk r w g) 6)) := fun hw => by
  refine pi1 fn116 ?_
  (repeat' first | (refine Owe.same ?_; first | refine Owe.o ?_ | refine Owe.mk ?_ ?_) | (refine Fork.same ?_; (first | refine fkD ?_ ?_ | refine fkN ?_ ?_ | refine fkM ?_ ?_) <;> intro h) | ((first | refine OpsL.same ?_ | refine OpsDL.same ?_); first | refine pK C43 rfl rfl ?_) | refine MvQ.stay ?_)
  (refine rqK rfl ?_; (repeat' first | exact rfl | (refine qS ?_; constructor)))
theorem C115 {g : FuncId} {rows : List (List D)} {f : Ry → Int} (hg : ∀ (i : Int) (x : Ry), PFD Try.prog g (vi .i64 i :: ryv x :: rows.map fun r => .c (.rp r)) (vi .i64 (f x))) {l : List Ry} : l.length ≤ 1000000 → PFD Try.prog 115 [.c (rys l), .c (.fnR g rows)] (.tup [vi .i64 (eachE f 0 l).1, vi .i64 (eachE f 0 l).2]) := fun hl => by
  refine pi2 fn115 ?_
  (repeat' first | (refine Owe.same ?_; first | refine Owe.o ?_ | refine Owe.mk ?_ ?_) | (refine Fork.same ?_; (first | refine fkD ?_ ?_ | refine fkN ?_ ?_ | refine fkM ?_ ?_) <;> intro h) | refine MvQ.stay ?_)
  refine Sat.lp0 (fun k : Nat => [(11, vi .i64 k), (10, vi .i64 l.length), (9, .c (rys l)), (1, .c (.fnR g rows))]) (fun k => k ≤ l.length ∧ eachE f 0 l = eachE f k (l.drop k)) (fun k => l.length - k) 0 ⟨Nat.zero_le _, rfl⟩ (by ((first | refine qen ?_ | refine qvs ?_ | refine qeq ?_ | refine qst ?_ | refine qv ?_ | refine qc ?_ | refine qe ?_ | refine qcs ?_ | skip); (repeat' first | exact rfl | (refine qS ?_; constructor)))) ?_
  intro k hk
  (repeat' first | (refine Owe.same ?_; first | refine Owe.o ?_ | refine Owe.mk ?_ ?_) | (refine Fork.same ?_; (first | refine fkD ?_ ?_ | refine fkN ?_ ?_ | refine fkM ?_ ?_) <;> intro h) | ((first | refine OpsL.same ?_ | refine OpsDL.same ?_); first | refine pR (hg _ (l.getD k ryd)) rfl rfl ?_) | refine MvQ.stay ?_)
  · have e := eachE_drop f ryd l k (by omega)
    have h : ¬ f (l.getD k ryd) = 0 := h
    rw [if_neg h, ← hk.2] at e
    (refine rqK rfl ?_; (repeat' first | exact rfl | (refine qS ?_; constructor))) <;> rw [e]
  · have e := eachE_drop f ryd l k (by omega)
    have h : f (l.getD k ryd) = 0 := h
    rw [if_pos h, ← hk.2] at e
    exact again0 (k + 1) ⟨by omega, e⟩ (by omega) (by ((first | refine qen ?_ | refine qvs ?_ | refine qeq ?_ | refine qst ?_ | refine qv ?_ | refine qc ?_ | refine qe ?_ | refine qcs ?_ | skip); (repeat' first | exact rfl | (refine qS ?_; constructor))))
  · have e : eachE f 0 l = (0, 0) := by rw [hk.2, List.drop_of_length_le (by omega)]; rfl
    (refine rqK rfl ?_; (repeat' first | exact rfl | (refine qS ?_; constructor))) <;> rw [e]
/-- The error of a scene, with the index of a ray. -/
def scE (s : Sc) : Int × Int := if gridE s.1 s.2.1 s.2.2.length = 0 then eachE (fun r => unl (ryOk r s.1 s.2.1) 6) 0 s.2.2 else (0, gridE s.1 s.2.1 s.2.2.length)
theorem gridE_ok {w h n : Int} : gridE w h n = 0 ↔ ((1 ≤ w ∧ w ≤ 12) ∧ 1 ≤ h ∧ h ≤ 12) ∧ n ≤ 10 := by
  rw [gridE, fst2, unl0 (by decide), unl0 (by decide)]
theorem C88 {s : Sc} : s.2.2.length ≤ 1000000 → PFD Try.prog 88 [scv s] (.tup [vi .i64 (scE s).1, vi .i64 (scE s).2]) := fun hl => by
  obtain ⟨w, g, l⟩ := s
  refine pi2 fn88 ?_
  (repeat' first | (refine Owe.same ?_; first | refine Owe.o ?_ | refine Owe.mk ?_ ?_) | (refine Fork.same ?_; (first | refine fkD ?_ ?_ | refine fkN ?_ ?_ | refine fkM ?_ ?_) <;> intro h) | ((first | refine OpsL.same ?_ | refine OpsDL.same ?_); first | refine pK C101 rfl rfl ?_) | refine MvQ.stay ?_)
  · have h : ¬ gridE w g l.length = 0 := h
    (refine rqK rfl ?_; (repeat' first | exact rfl | (refine qS ?_; constructor))) <;> rw [scE, if_neg h]
  · have h : gridE w g l.length = 0 := h
    have hr : scE (w, g, l) = eachE (fun r => unl (ryOk r w g) 6) 0 l := by rw [scE, if_pos h]
    rw [hr]
    have hb := gridE_ok.1 h
    have c1 := C115 (g := 116) (rows := [scD (w, g, l)]) (f := fun r => unl (ryOk r w g) 6) (fun i x => C116 (w := w) (g := g) (d := rysD l) ⟨by omega, by omega⟩) (l := l) hl
    (repeat' first | (refine Owe.same ?_; first | refine Owe.o ?_ | refine Owe.mk ?_ ?_) | (refine Fork.same ?_; (first | refine fkD ?_ ?_ | refine fkN ?_ ?_ | refine fkM ?_ ?_) <;> intro h) | ((first | refine OpsL.same ?_ | refine OpsDL.same ?_); first | refine pK c1 rfl rfl ?_) | refine MvQ.stay ?_)
    (refine rqK rfl ?_; (repeat' first | exact rfl | (refine qS ?_; constructor)))
theorem C67 {s : Sc} : s.2.2.length ≤ 1000000 → PFD Try.prog 67 [scv s] (vi .i64 (scE s).2) := fun hl => by
  refine pi1 fn67 ?_
  (repeat' first | (refine Owe.same ?_; first | refine Owe.o ?_ | refine Owe.mk ?_ ?_) | (refine Fork.same ?_; (first | refine fkD ?_ ?_ | refine fkN ?_ ?_ | refine fkM ?_ ?_) <;> intro h) | ((first | refine OpsL.same ?_ | refine OpsDL.same ?_); first | refine pK (C88 hl) rfl rfl ?_) | refine MvQ.stay ?_)
  (refine rqK rfl ?_; (repeat' first | exact rfl | (refine qS ?_; constructor)))
theorem C107 {c : Pr} {w : Int} : ((0 ≤ c.2 ∧ c.2 ≤ 1000) ∧ (0 ≤ c.1 ∧ c.1 ≤ 1000) ∧ 0 ≤ w ∧ w ≤ 1000) → PFD Try.prog 107 [pr c, vi .i64 w] (vi .i64 (c.2 * w + c.1)) := fun ⟨h1, h2, h3⟩ => by
  have m : 0 ≤ c.2 * w ∧ c.2 * w ≤ 1000 * 1000 := ⟨Int.mul_nonneg h1.1 h3.1, Int.mul_le_mul h1.2 h3.2 h3.1 (by decide)⟩
  refine pi1 fn107 ?_
  (repeat' first | (refine Owe.same ?_; first | refine Owe.o ?_ | refine Owe.mk ?_ ?_) | (refine Fork.same ?_; (first | refine fkD ?_ ?_ | refine fkN ?_ ?_ | refine fkM ?_ ?_) <;> intro h) | refine MvQ.stay ?_)
  (refine rqK rfl ?_; (repeat' first | exact rfl | (refine qS ?_; constructor)))
def idxE (n : Int) : Int → List Int → Int
  | _, [] => -1
  | k, x :: l => if n = x then k else idxE n (k + 1) l
theorem idxE_drop (n : Int) (l : List Int) (k : Nat) (h : k < l.length) : idxE n k (l.drop k) = if n = l.getD k 0 then (k : Int) else idxE n ((k + 1 : Nat) : Int) (l.drop (k + 1)) := by
  have e : l.drop k = l.getD k 0 :: l.drop (k + 1) := by
    rw [List.getD_eq_getElem?_getD, List.getElem?_eq_getElem h]; exact List.drop_eq_getElem_cons h
  rw [e, idxE]; rfl
theorem idxE_ge (n : Int) : ∀ (l : List Int) (k : Int), 0 ≤ k → (0 ≤ idxE n k l ↔ n ∈ l)
  | [], k, _ => by simp [idxE]
  | x :: l, k, hk => by
    rw [idxE]
    split
    · rename_i h; subst h; simp [hk]
    · rename_i h; rw [idxE_ge n l (k + 1) (by omega), List.mem_cons]; simp [h]
theorem C92 {l : List Int} {n : Int} : l.length ≤ 1000000 → PFD Try.prog 92 [.c (ints l), vi .i64 n] (vi .i64 (idxE n 0 l)) := fun hl => by
  refine pi1 fn92 ?_
  (repeat' first | (refine Owe.same ?_; first | refine Owe.o ?_ | refine Owe.mk ?_ ?_) | (refine Fork.same ?_; (first | refine fkD ?_ ?_ | refine fkN ?_ ?_ | refine fkM ?_ ?_) <;> intro h) | refine MvQ.stay ?_)
  refine Sat.lp0 (fun k : Nat => [(8, vi .i64 k), (7, vi .i64 l.length), (0, .c (ints l)), (1, vi .i64 n)]) (fun k => k ≤ l.length ∧ idxE n 0 l = idxE n k (l.drop k)) (fun k => l.length - k) 0 ⟨Nat.zero_le _, rfl⟩ (by ((first | refine qen ?_ | refine qvs ?_ | refine qeq ?_ | refine qst ?_ | refine qv ?_ | refine qc ?_ | refine qe ?_ | refine qcs ?_ | skip); (repeat' first | exact rfl | (refine qS ?_; constructor)))) ?_
  intro k hk
  (repeat' first | (refine Owe.same ?_; first | refine Owe.o ?_ | refine Owe.mk ?_ ?_) | (refine Fork.same ?_; (first | refine fkD ?_ ?_ | refine fkN ?_ ?_ | refine fkM ?_ ?_) <;> intro h) | refine MvQ.stay ?_)
  · have e := idxE_drop n l k (by omega)
    have h : n = l.getD k 0 := h
    rw [if_pos h, ← hk.2] at e
    (refine rqK rfl ?_; (repeat' first | exact rfl | (refine qS ?_; constructor))); rw [e]
  · have e := idxE_drop n l k (by omega)
    have h : ¬ n = l.getD k 0 := h
    rw [if_neg h, ← hk.2] at e
    exact again0 (k + 1) ⟨by omega, e⟩ (by omega) (by ((first | refine qen ?_ | refine qvs ?_ | refine qeq ?_ | refine qst ?_ | refine qv ?_ | refine qc ?_ | refine qe ?_ | refine qcs ?_ | skip); (repeat' first | exact rfl | (refine qS ?_; constructor))))
  · have e : idxE n 0 l = -1 := by rw [hk.2, List.drop_of_length_le (by omega)]; rfl
    (refine rqK rfl ?_; (repeat' first | exact rfl | (refine qS ?_; constructor))); rw [e]
theorem C70 {l : List Int} {n : Int} : l.length ≤ 1000000 → PFD Try.prog 70 [.c (ints l), vi .i64 n] (vbl (decide (n ∈ l))) := fun hl => by
  refine pi1 fn70 ?_
  (repeat' first | (refine Owe.same ?_; first | refine Owe.o ?_ | refine Owe.mk ?_ ?_) | (refine Fork.same ?_; (first | refine fkD ?_ ?_ | refine fkN ?_ ?_ | refine fkM ?_ ?_) <;> intro h) | ((first | refine OpsL.same ?_ | refine OpsDL.same ?_); first | refine pK (C92 hl) rfl rfl ?_) | refine MvQ.stay ?_)
  (refine rqK rfl ?_; (repeat' first | exact rfl | (refine qS ?_; constructor)))
  exact decide_eq_decide.2 (idxE_ge n l 0 (Int.le_refl _))
end Go.Pw

set_option linter.unusedVariables false
set_option maxHeartbeats 2000000
set_option maxRecDepth 100000
namespace Go.Pw
open Go Go.Proofs
/-- moonpool/sonar.said -/
def lc93u : LCode :=
  (.seq (.region [⟨some 2, .box (.tmp 0), none⟩, ⟨some 3, .box (.tmp 1), none⟩, ⟨some 4, .mv (.const .nilFunc), none⟩]) (.seq (.region [⟨some 5, .mkfn 118 [(.tmp 2), (.tmp 3)],
    none⟩, ⟨some 4, .mv (.tmp 5), none⟩]) .ret))
theorem low93u : lowF Try.prog [] Try.f93 = some (6, lc93u.strip, [.tmp 4]) := by kernel_rfl
theorem fn93u : FnOk Try.prog 93 6 lc93u [.tmp 4] := ⟨Try.call93, [], _, Try.func93, low93u⟩
end Go.Pw

set_option linter.unusedSimpArgs false
namespace Go.Pw
set_option maxRecDepth 2000
open Go Go.Proofs A1 A2 A3 A4
/-- Both bits, as the program has them. -/
def orI (a b : Int) : Int := IntKind.i64.wrap ((BitVec.ofInt IntKind.i64.bits a ||| BitVec.ofInt IntKind.i64.bits b).toNat : Nat)
def stC (r : Ry) (c : Cel) : Int := if c = r.2.1 ∧ r.2.2 = true then 2 else 1
def cellN (w : Int) (c : Cel) : Nat := (c.2 * w + c.1).toNat
def updS (w : Int) (r : Ry) (out : List Int) (c : Cel) : List Int := out.set (cellN w c) (orI (out.getD (cellN w c) 0) (stC r c))
def stR (w : Int) (r : Ry) (out : List Int) : List Int := (crS r).foldl (updS w r) out
/-- The states after so many rays. -/
def stK (s : Sc) (wo : List Int) : Nat → List Int
  | 0 => List.replicate (s.1 * s.2.1).toNat 0
  | k + 1 => if (k : Int) ∈ wo then stK s wo k else stR s.1 (s.2.2.getD k ryd) (stK s wo k)
def stS (s : Sc) (wo : List Int) : List Int := stK s wo s.2.2.length
structure ScOk (s : Sc) : Prop where
  w : 1 ≤ s.1 ∧ s.1 ≤ 12
  h : 1 ≤ s.2.1 ∧ s.2.1 ≤ 12
  n : s.2.2.length ≤ 10
  r : ∀ i, i < s.2.2.length → ryOk (s.2.2.getD i ryd) s.1 s.2.1
/-- The states when so many cells of a ray are seen to. -/
def stJ (w : Int) (r : Ry) (out : List Int) (j : Nat) : List Int := ((crS r).take j).foldl (updS w r) out
theorem stJ_succ {w : Int} {r : Ry} {out : List Int} {j : Nat} (h : j < (crS r).length) : stJ w r out (j + 1) = updS w r (stJ w r out j) ((crS r).getD j (0, 0)) := by
  rw [stJ, stJ, List.take_add_one, List.foldl_append, List.getElem?_eq_getElem h, List.getD_eq_getElem?_getD, List.getElem?_eq_getElem h]; rfl
theorem stJ_all {w : Int} {r : Ry} {out : List Int} : stJ w r out (crS r).length = stR w r out := by rw [stJ, List.take_length]; rfl
theorem foldU_len {w : Int} {r : Ry} : ∀ (l : List Cel) (out : List Int), (l.foldl (updS w r) out).length = out.length
  | [], _ => rfl
  | c :: l, out => by rw [List.foldl_cons, foldU_len l]; simp [updS]
theorem stK_len {s : Sc} {wo : List Int} : ∀ k, (stK s wo k).length = (s.1 * s.2.1).toNat
  | 0 => by simp [stK]
  | k + 1 => by
    rw [stK]; split
    · exact stK_len k
    · rw [stR, foldU_len]; exact stK_len k
theorem crS_in {r : Ry} {w g : Int} (hO : ryOk r w g) {c : Cel} (hc : c ∈ crS r) : inG c w g := by
  obtain ⟨_, hx, hy⟩ := crS_mem.1 hc
  obtain ⟨h1, h2⟩ := hO
  simp only [inG, Ry.x0, Ry.y0, Ry.wn, Ry.hn, Ry.dx, Ry.dy, sz] at *
  omega
theorem stC_2 {r : Ry} {c : Cel} (h : (decide (c.1 = r.2.1.1) && decide (c.2 = r.2.1.2)) = true) (h2 : r.2.2 = true) : stC r c = 2 := by
  simp only [Bool.and_eq_true, decide_eq_true_eq] at h
  rw [stC, if_pos ⟨Prod.ext h.1 h.2, h2⟩]
theorem stC_1a {r : Ry} {c : Cel} (h : (decide (c.1 = r.2.1.1) && decide (c.2 = r.2.1.2)) = false) : stC r c = 1 := by
  rw [stC, if_neg]
  rintro ⟨rfl, _⟩
  simp at h
theorem stC_1b {r : Ry} {c : Cel} (h : r.2.2 = false) : stC r c = 1 := by
  rw [stC, if_neg]
  rintro ⟨_, h2⟩
  rw [h] at h2; cases h2
theorem cell_bd {c : Cel} {w g : Int} (hc : inG c w g) (hw : 1 ≤ w) : 0 ≤ c.2 * w + c.1 ∧ c.2 * w + c.1 < w * g := by
  simp only [inG] at hc
  have h1 : 0 ≤ c.2 * w := Int.mul_nonneg (by omega) (by omega)
  have h2 : c.2 * w ≤ (g - 1) * w := Int.mul_le_mul_of_nonneg_right (by omega) (by omega)
  rw [Int.sub_mul, Int.one_mul, Int.mul_comm g w] at h2
  omega
theorem C71 {s : Sc} {wo : List Int} : (ScOk s ∧ wo.length ≤ 1000000) → PFD Try.prog 71 [scv s, .c (ints wo)] (.c (ints (stS s wo))) := fun ⟨hO, hwo⟩ => by
  obtain ⟨w, g, l⟩ := s
  have hw := hO.w; have hh := hO.h; have hn := hO.n
  simp only at hw hh hn
  obtain ⟨S, hS⟩ : ∃ S, S = stS (w, g, l) wo := ⟨_, rfl⟩
  rw [← hS]
  have mwg : 1 ≤ w * g ∧ w * g ≤ 144 := by
    have h1 : (1 : Int) * 1 ≤ w * g := Int.mul_le_mul hw.1 hh.1 (by decide) (by omega)
    have h2 : w * g ≤ 12 * 12 := Int.mul_le_mul hw.2 hh.2 (by omega) (by decide)
    omega
  refine pi1 fn71 ?_
  (repeat' first | (refine Owe.same ?_; first | refine Owe.o ?_ | refine Owe.mk ?_ ?_) | (refine Fork.same ?_; (first | refine fkD ?_ ?_ | refine fkN ?_ ?_ | refine fkM ?_ ?_) <;> intro h) | refine MvQ.stay ?_)
  refine Sat.lp (fun k : Nat => ⟨[(18, vi .i64 k), (17, vi .i64 l.length), (16, .c (rys l)), (1, .c (ints wo)), (2, .c (.rp (scD (w, g, l)))), (5, .c (.bp 1 0))], [(1, .box [.ms 0 (stK (w, g, l) wo k).length]), (0, rowv 3 1 r1 0 (stK (w, g, l) wo k))], 2⟩)
    (fun k => k ≤ l.length) (fun k => l.length - k) 0 [0, 1] (Nat.zero_le _) ?_ ?_
  · (refine qis ?_ ?_ <;> (repeat' first | exact rfl | (refine qS ?_; constructor)))
    · simp [stK]
    · exact ⟨0, rfl, rfl⟩
  · intro k hk
    refine Fork.dec (fun hlt => ?_) (fun hlt => ?_)
    · have hlt : k < l.length := by omega
      have hr := hO.r k hlt
      simp only at hr
      (repeat' first | (refine Owe.same ?_; first | refine Owe.o ?_ | refine Owe.mk ?_ ?_) | (refine Fork.same ?_; (first | refine fkD ?_ ?_ | refine fkN ?_ ?_ | refine fkM ?_ ?_) <;> intro h) | ((first | refine OpsL.same ?_ | refine OpsDL.same ?_); first | refine pK C70 rfl rfl ?_) | refine MvQ.stay ?_)
      · have e : stK (w, g, l) wo (k + 1) = stK (w, g, l) wo k := by rw [stK, if_pos h]
        refine again (k + 1) [0, 1] hlt (by omega) ?_
        rw [e]
        (refine qis ?_ ?_ <;> (repeat' first | exact rfl | (refine qS ?_; constructor)))
      · have e : stK (w, g, l) wo (k + 1) = stR w (l.getD k ryd) (stK (w, g, l) wo k) := by rw [stK, if_neg h]
        (repeat' first | (refine Owe.same ?_; first | refine Owe.o ?_ | refine Owe.mk ?_ ?_) | (refine Fork.same ?_; (first | refine fkD ?_ ?_ | refine fkN ?_ ?_ | refine fkM ?_ ?_) <;> intro h) | refine MvQ.stay ?_)
        refine Ops.cs rfl rfl (CallS.of fn93u rfl ?_)
        (repeat' first | (refine Owe.same ?_; first | refine Owe.o ?_ | refine Owe.mk ?_ ?_) | (refine Fork.same ?_; (first | refine fkD ?_ ?_ | refine fkN ?_ ?_ | refine fkM ?_ ?_) <;> intro h) | refine MvQ.stay ?_)
        refine Sat.keep [1, 2, 5, 16, 17, 18, 29] ?_
        refine Sat.rf rfl rfl (CallS.of fn118 rfl ?_)
        (repeat' first | (refine Owe.same ?_; first | refine Owe.o ?_ | refine Owe.mk ?_ ?_) | (refine Fork.same ?_; (first | refine fkD ?_ ?_ | refine fkN ?_ ?_ | refine fkM ?_ ?_) <;> intro h) | refine MvQ.stay ?_)
        have hr12 : ryOk (l.getD k ryd) 12 12 := by simp only [ryOk, inG] at hr ⊢; omega
        have c44 := C44 hr12
        have hin : ∀ c ∈ crS (l.getD k ryd), inG c w g := fun c hc => crS_in hr hc
        have hlen := stK_len (s := (w, g, l)) (wo := wo) k
        have hcl : (crS (l.getD k ryd)).length ≤ 12 * 12 := by
          have h1 := wn_le hr12
          have h2 := hn_le hr12
          exact Nat.le_trans crS_len (Nat.mul_le_mul (by omega) (by omega))
        (repeat' first | (refine Owe.same ?_; first | refine Owe.o ?_ | refine Owe.mk ?_ ?_) | (refine Fork.same ?_; (first | refine fkD ?_ ?_ | refine fkN ?_ ?_ | refine fkM ?_ ?_) <;> intro h) | ((first | refine OpsL.same ?_ | refine OpsDL.same ?_); first | refine pK c44 rfl rfl ?_) | refine MvQ.stay ?_)
        refine Sat.lp (fun j : Nat => ⟨[(10, vi .i64 j), (9, vi .i64 (crS (l.getD k ryd)).length), (8, .c (prs (crS (l.getD k ryd)))), (0, .c (.yd 5)), (1, .c (.bp 3 0)), (2, .c (.bp 4 0))],
            [(5, .lp [(1, .c (ints wo)), (2, .c (.rp (scD (w, g, l)))), (5, .c (.bp 1 0)), (16, .c (rys l)), (17, vi .i64 l.length), (18, vi .i64 k), (29, .c (.fn 118 [3, 4]))] .ready none (RR Try.prog 42 [30] ra71 rb71)),
              (4, .box [int w]), (3, .box [int (l.getD k ryd).1.1, int (l.getD k ryd).1.2, int (l.getD k ryd).2.1.1, int (l.getD k ryd).2.1.2, .d (.v (.bool (l.getD k ryd).2.2))]),
              (1, .box [.ms 0 (stJ w (l.getD k ryd) (stK (w, g, l) wo k) j).length]), (0, rowv 3 1 r1 0 (stJ w (l.getD k ryd) (stK (w, g, l) wo k) j))], 6⟩)
          (fun j => j ≤ (crS (l.getD k ryd)).length) (fun j => (crS (l.getD k ryd)).length - j) 0 [] (Nat.zero_le _) ?_ ?_
        · (refine qis ?_ ?_ <;> (repeat' first | exact rfl | (refine qS ?_; constructor)))
        · intro j hj
          refine Fork.dec (fun hlt => ?_) (fun hlt => ?_)
          · have hlt : j < (crS (l.getD k ryd)).length := by omega
            have hc : inG ((crS (l.getD k ryd)).getD j (0, 0)) w g := hin _ (getD_mem (0, 0) hlt)
            have mc := cell_bd hc hw.1
            have hjl : ∀ j, (stJ w (l.getD k ryd) (stK (w, g, l) wo k) j).length = (w * g).toNat := fun j => by rw [stJ, foldU_len]; exact hlen
            have hj1 := hjl j
            have hu := stJ_succ (w := w) (out := stK (w, g, l) wo k) hlt
            simp only [inG] at hc
            (repeat' first | (refine Owe.same ?_; first | refine Owe.o ?_ | refine Owe.mk ?_ ?_) | (refine Fork.same ?_; (first | refine fkD ?_ ?_ | refine fkN ?_ ?_ | refine fkM ?_ ?_) <;> intro h) | ((first | refine OpsL.same ?_ | refine OpsDL.same ?_); first | refine pK C107 rfl rfl ?_) | refine MvQ.stay ?_)
            · rename_i h1
              have hst : stC (l.getD k ryd) ((crS (l.getD k ryd)).getD j (0, 0)) = 2 := stC_2 h1 h
              refine Ops.yd rfl rfl rfl rfl rfl ?_
              (repeat' first | (refine Owe.same ?_; first | refine Owe.o ?_ | refine Owe.mk ?_ ?_) | (refine Fork.same ?_; (first | refine fkD ?_ ?_ | refine fkN ?_ ?_ | refine fkM ?_ ?_) <;> intro h) | refine MvQ.stay ?_)
              refine And.intro rfl (Exists.intro _ (And.intro rfl ?_))
              (repeat' first | (refine Owe.same ?_; first | refine Owe.o ?_ | refine Owe.mk ?_ ?_) | (refine Fork.same ?_; (first | refine fkD ?_ ?_ | refine fkN ?_ ?_ | refine fkM ?_ ?_) <;> intro h) | refine MvQ.stay ?_)
              refine Exists.intro _ (Exists.intro _ (Exists.intro _ (And.intro rfl ?_)))
              (repeat' first | (refine Owe.same ?_; first | refine Owe.o ?_ | refine Owe.mk ?_ ?_) | (refine Fork.same ?_; (first | refine fkD ?_ ?_ | refine fkN ?_ ?_ | refine fkM ?_ ?_) <;> intro h) | refine MvQ.stay ?_)
              refine again (j + 1) [] hlt (by omega) ?_
              (refine qis ?_ ?_ <;> (repeat' first | exact rfl | (refine qS ?_; constructor)))
              · rw [hjl, hjl]
              · refine ⟨orI ((stJ w (l.getD k ryd) (stK (w, g, l) wo k) j).getD (cellN w ((crS (l.getD k ryd)).getD j (0, 0))) 0) 2, rfl, ?_⟩
                rw [hu, updS, hst]; rfl
            · have hst : stC (l.getD k ryd) ((crS (l.getD k ryd)).getD j (0, 0)) = 1 := stC_1b h
              refine Ops.yd rfl rfl rfl rfl rfl ?_
              (repeat' first | (refine Owe.same ?_; first | refine Owe.o ?_ | refine Owe.mk ?_ ?_) | (refine Fork.same ?_; (first | refine fkD ?_ ?_ | refine fkN ?_ ?_ | refine fkM ?_ ?_) <;> intro h) | refine MvQ.stay ?_)
              refine And.intro rfl (Exists.intro _ (And.intro rfl ?_))
              (repeat' first | (refine Owe.same ?_; first | refine Owe.o ?_ | refine Owe.mk ?_ ?_) | (refine Fork.same ?_; (first | refine fkD ?_ ?_ | refine fkN ?_ ?_ | refine fkM ?_ ?_) <;> intro h) | refine MvQ.stay ?_)
              refine Exists.intro _ (Exists.intro _ (Exists.intro _ (And.intro rfl ?_)))
              (repeat' first | (refine Owe.same ?_; first | refine Owe.o ?_ | refine Owe.mk ?_ ?_) | (refine Fork.same ?_; (first | refine fkD ?_ ?_ | refine fkN ?_ ?_ | refine fkM ?_ ?_) <;> intro h) | refine MvQ.stay ?_)
              refine again (j + 1) [] hlt (by omega) ?_
              (refine qis ?_ ?_ <;> (repeat' first | exact rfl | (refine qS ?_; constructor)))
              · rw [hjl, hjl]
              · refine ⟨orI ((stJ w (l.getD k ryd) (stK (w, g, l) wo k) j).getD (cellN w ((crS (l.getD k ryd)).getD j (0, 0))) 0) 1, rfl, ?_⟩
                rw [hu, updS, hst]; rfl
            · have hst : stC (l.getD k ryd) ((crS (l.getD k ryd)).getD j (0, 0)) = 1 := stC_1a h
              refine Ops.yd rfl rfl rfl rfl rfl ?_
              (repeat' first | (refine Owe.same ?_; first | refine Owe.o ?_ | refine Owe.mk ?_ ?_) | (refine Fork.same ?_; (first | refine fkD ?_ ?_ | refine fkN ?_ ?_ | refine fkM ?_ ?_) <;> intro h) | refine MvQ.stay ?_)
              refine And.intro rfl (Exists.intro _ (And.intro rfl ?_))
              (repeat' first | (refine Owe.same ?_; first | refine Owe.o ?_ | refine Owe.mk ?_ ?_) | (refine Fork.same ?_; (first | refine fkD ?_ ?_ | refine fkN ?_ ?_ | refine fkM ?_ ?_) <;> intro h) | refine MvQ.stay ?_)
              refine Exists.intro _ (Exists.intro _ (Exists.intro _ (And.intro rfl ?_)))
              (repeat' first | (refine Owe.same ?_; first | refine Owe.o ?_ | refine Owe.mk ?_ ?_) | (refine Fork.same ?_; (first | refine fkD ?_ ?_ | refine fkN ?_ ?_ | refine fkM ?_ ?_) <;> intro h) | refine MvQ.stay ?_)
              refine again (j + 1) [] hlt (by omega) ?_
              (refine qis ?_ ?_ <;> (repeat' first | exact rfl | (refine qS ?_; constructor)))
              · rw [hjl, hjl]
              · refine ⟨orI ((stJ w (l.getD k ryd) (stK (w, g, l) wo k) j).getD (cellN w ((crS (l.getD k ryd)).getD j (0, 0))) 0) 1, rfl, ?_⟩
                rw [hu, updS, hst]; rfl
          · (repeat' first | (refine Owe.same ?_; first | refine Owe.o ?_ | refine Owe.mk ?_ ?_) | (refine Fork.same ?_; (first | refine fkD ?_ ?_ | refine fkN ?_ ?_ | refine fkM ?_ ?_) <;> intro h) | refine MvQ.stay ?_)
            have : j = (crS (l.getD k ryd)).length := by omega
            subst this
            refine again (k + 1) [0, 1] (by omega) (by omega) ?_
            simp only [e, ← stJ_all]
            (refine qis ?_ ?_ <;> (repeat' first | exact rfl | (refine qS ?_; constructor)))
    · (repeat' first | (refine Owe.same ?_; first | refine Owe.o ?_ | refine Owe.mk ?_ ?_) | (refine Fork.same ?_; (first | refine fkD ?_ ?_ | refine fkN ?_ ?_ | refine fkM ?_ ?_) <;> intro h) | refine MvQ.stay ?_)
      have : k = l.length := by omega
      subst this
      have e : S = stK (w, g, l) wo l.length := hS
      subst e
      refine rqF 0 _ rfl rfl rfl ?_; (repeat' first | exact rfl | (refine qS ?_; constructor))
end Go.Pw

set_option linter.unusedSimpArgs false
namespace Go.Pw
set_option maxRecDepth 2000
open Go Go.Proofs A1 A2 A3 A4
theorem scE_ok {s : Sc} : (scE s).2 = 0 ↔ gridE s.1 s.2.1 s.2.2.length = 0 ∧ ∀ r ∈ s.2.2, ryOk r s.1 s.2.1 := by
  rw [scE]
  split
  · rename_i h
    rw [eachE_ok]
    constructor
    · intro h1; exact ⟨h, fun r hr => (unl0 (by decide)).1 (h1 r hr)⟩
    · intro h1 r hr; exact (unl0 (by decide)).2 (h1.2 r hr)
  · rename_i h
    constructor
    · intro h1; exact absurd h1 h
    · intro h1; exact absurd h1.1 h
theorem scE_sc {s : Sc} (h : (scE s).2 = 0) : ScOk s := by
  obtain ⟨h1, h2⟩ := scE_ok.1 h
  have := gridE_ok.1 h1
  exact ⟨this.1.1, this.1.2, by omega, fun i hi => h2 _ (getD_mem _ hi)⟩
theorem C35 {s : Sc} : s.2.2.length ≤ 1000000 → PFD Try.prog 35 [scv s] (.tup [.c (ints (if (scE s).2 = 0 then stS s [] else [])), vi .i64 (scE s).2]) := fun hl => by
  by_cases h0 : (scE s).2 = 0
  · rw [if_pos h0]
    have hO := scE_sc h0
    have c71 := C71 (s := s) (wo := []) ⟨hO, by simp⟩
    obtain ⟨S, hS⟩ : ∃ S, S = stS s [] := ⟨_, rfl⟩
    rw [← hS] at c71 ⊢
    refine pi2 fn35 ?_
    (repeat' first | (refine Owe.same ?_; first | refine Owe.o ?_ | refine Owe.mk ?_ ?_) | (refine Fork.same ?_; (first | refine fkD ?_ ?_ | refine fkN ?_ ?_ | refine fkM ?_ ?_) <;> intro h) | ((first | refine OpsL.same ?_ | refine OpsDL.same ?_); first | refine pK (C67 hl) rfl rfl ?_ | refine pK c71 rfl rfl ?_) | refine MvQ.stay ?_)
    · exact absurd h0 h
    · (refine rqK rfl ?_; (repeat' first | exact rfl | (refine qS ?_; constructor)))
      exact h0.symm
  · rw [if_neg h0]
    refine pi2 fn35 ?_
    (repeat' first | (refine Owe.same ?_; first | refine Owe.o ?_ | refine Owe.mk ?_ ?_) | (refine Fork.same ?_; (first | refine fkD ?_ ?_ | refine fkN ?_ ?_ | refine fkM ?_ ?_) <;> intro h) | ((first | refine OpsL.same ?_ | refine OpsDL.same ?_); first | refine pK (C67 hl) rfl rfl ?_) | refine MvQ.stay ?_)
    · (refine rqK rfl ?_; (repeat' first | exact rfl | (refine qS ?_; constructor)))
    · exact absurd h h0
def odC (s : Sc) (t : List Int) : Int × Bool := ((t.length : Int), !decide ((3 : Int) ∈ stS s t))
theorem C69 {s : Sc} {t : List Int} : (ScOk s ∧ t.length ≤ 1000000) → PFD Try.prog 69 [.c (ints t), .c (.rp (scD s))] (.tup [vi .i64 (odC s t).1, vbl (odC s t).2]) := fun ⟨hO, ht⟩ => by
  have c71 := C71 (s := s) (wo := t) ⟨hO, ht⟩
  have hl : (stS s t).length ≤ 144 := by
    rw [stS, stK_len]
    have h2 : s.1 * s.2.1 ≤ 12 * 12 := Int.mul_le_mul hO.w.2 hO.h.2 (by have := hO.h; omega) (by decide)
    omega
  rw [odC]
  generalize stS s t = S at *
  refine pi2 fn69 ?_
  (repeat' first | (refine Owe.same ?_; first | refine Owe.o ?_ | refine Owe.mk ?_ ?_) | (refine Fork.same ?_; (first | refine fkD ?_ ?_ | refine fkN ?_ ?_ | refine fkM ?_ ?_) <;> intro h) | ((first | refine OpsL.same ?_ | refine OpsDL.same ?_); first | refine pK c71 rfl rfl ?_ | refine pK C70 rfl rfl ?_) | refine MvQ.stay ?_)
  (refine rqK rfl ?_; (repeat' first | exact rfl | (refine qS ?_; constructor)))
theorem C30 {s : Sc} : s.2.2.length ≤ 1000000 → PFD Try.prog 30 [scv s] (.tup [.c (ints (if (scE s).2 = 0 then (bestK (odC s) s.2.2.length (2 ^ s.2.2.length)).l else [])), vi .i64 (scE s).2]) := fun hl => by
  by_cases h0 : (scE s).2 = 0
  · rw [if_pos h0]
    have hO := scE_sc h0
    have c68 := C68 (g := 69) (rows := [scD s]) (c := odC s) (n := s.2.2.length) (fun t ht _ => C69 ⟨hO, ht⟩) (by have := hO.n; omega)
    generalize bestK (odC s) s.2.2.length (2 ^ s.2.2.length) = B at *
    refine pi2 fn30 ?_
    (repeat' first | (refine Owe.same ?_; first | refine Owe.o ?_ | refine Owe.mk ?_ ?_) | (refine Fork.same ?_; (first | refine fkD ?_ ?_ | refine fkN ?_ ?_ | refine fkM ?_ ?_) <;> intro h) | ((first | refine OpsL.same ?_ | refine OpsDL.same ?_); first | refine pK (C67 hl) rfl rfl ?_ | refine pK c68 rfl rfl ?_) | refine MvQ.stay ?_)
    · exact absurd h0 h
    · (refine rqK rfl ?_; (repeat' first | exact rfl | (refine qS ?_; constructor)))
      exact h0.symm
  · rw [if_neg h0]
    refine pi2 fn30 ?_
    (repeat' first | (refine Owe.same ?_; first | refine Owe.o ?_ | refine Owe.mk ?_ ?_) | (refine Fork.same ?_; (first | refine fkD ?_ ?_ | refine fkN ?_ ?_ | refine fkM ?_ ?_) <;> intro h) | ((first | refine OpsL.same ?_ | refine OpsDL.same ?_); first | refine pK (C67 hl) rfl rfl ?_) | refine MvQ.stay ?_)
    · (refine rqK rfl ?_; (repeat' first | exact rfl | (refine qS ?_; constructor)))
    · exact absurd h h0
end Go.Pw

set_option linter.unusedSimpArgs false
namespace Go.Pw
set_option maxRecDepth 2000
open Go Go.Proofs A1 A2 A3 A4
abbrev Vw := Ry × Int
abbrev vwd : Vw := (ryd, 0)
abbrev r6 (v : Vw) : List D := [dI v.1.1.1, dI v.1.1.2, dI v.1.2.1.1, dI v.1.2.1.2, .v (.bool v.1.2.2), dI v.2]
abbrev vws (l : List Vw) : C := slv 6 r6 vwd l
abbrev Se := Int × Int × List Vw × List Int
abbrev sev (x : Se) : V := .agg [int x.1, int x.2.1, vws x.2.2.1, ints x.2.2.2]
abbrev seb (x : Se) : List C := [int x.1, int x.2.1, vws x.2.2.1, ints x.2.2.2]
/-- The error of a view. -/
def vwE (w h : Int) (v : Vw) : Int := fstE [unl (ryOk v.1 w h) 6, unl (0 ≤ v.2 ∧ v.2 ≤ 1000) 2]
/-- The error of a wanted cell, after another one. -/
def wnE (m last x : Int) : Int := fstE [unl (0 ≤ x ∧ x ≤ m - 1) 6, unl (last < x) 9]
def eachW (m : Int) : Int → Nat → List Int → Int × Int
  | _, _, [] => (0, 0)
  | last, k, x :: l => if wnE m last x = 0 then eachW m x (k + 1) l else ((k : Int), wnE m last x)
theorem eachW_drop (m last : Int) (l : List Int) (k : Nat) (h : k < l.length) : eachW m last k (l.drop k) = if wnE m last (l.getD k 0) = 0 then eachW m (l.getD k 0) (k + 1) (l.drop (k + 1)) else ((k : Int), wnE m last (l.getD k 0)) := by
  have e : l.drop k = l.getD k 0 :: l.drop (k + 1) := by
    rw [List.getD_eq_getElem?_getD, List.getElem?_eq_getElem h]; exact List.drop_eq_getElem_cons h
  rw [e, eachW]
/-- The error of a search, with an index. -/
def seE (x : Se) : Int × Int := if gridE x.1 x.2.1 x.2.2.1.length = 0 then (if (eachE (vwE x.1 x.2.1) 0 x.2.2.1).2 = 0 then eachW (x.1 * x.2.1) (-1) 0 x.2.2.2 else eachE (vwE x.1 x.2.1) 0 x.2.2.1) else (0, gridE x.1 x.2.1 x.2.2.1.length)
theorem vwE_of {w g : Int} {v : Vw} {e : Int} (h : ¬ fstE [unl (ryOk v.1 w g) 6, e] = 0) (he : e = unl (0 ≤ v.2 ∧ v.2 ≤ 1000) 2) : ¬ vwE w g v = 0 := by subst he; exact h
theorem C76 {x : Se} : (x.2.2.1.length ≤ 1000000 ∧ x.2.2.2.length ≤ 1000000) → PFD Try.prog 76 [sev x] (.tup [vi .i64 (seE x).1, vi .i64 (seE x).2]) := fun ⟨hl, hm⟩ => by
  obtain ⟨w, g, l, m⟩ := x
  simp only at hl hm
  refine pi2 fn76 ?_
  (repeat' first | (refine Owe.same ?_; first | refine Owe.o ?_ | refine Owe.mk ?_ ?_) | (refine Fork.same ?_; (first | refine fkD ?_ ?_ | refine fkN ?_ ?_ | refine fkM ?_ ?_) <;> intro h) | ((first | refine OpsL.same ?_ | refine OpsDL.same ?_); first | refine pK C101 rfl rfl ?_) | refine MvQ.stay ?_)
  · have h : ¬ gridE w g l.length = 0 := h
    (refine rqK rfl ?_; (repeat' first | exact rfl | (refine qS ?_; constructor))) <;> rw [seE, if_neg h]
  have h : gridE w g l.length = 0 := h
  have hb := gridE_ok.1 h
  have hr : seE (w, g, l, m) = if (eachE (vwE w g) 0 l).2 = 0 then eachW (w * g) (-1) 0 m else eachE (vwE w g) 0 l := by rw [seE, if_pos h]
  rw [hr]
  obtain ⟨E, hE⟩ : ∃ E, E = eachE (vwE w g) 0 l := ⟨_, rfl⟩
  rw [← hE]
  refine Ops.cs rfl rfl (CallS.of fn102 rfl ?_)
  (repeat' first | (refine Owe.same ?_; first | refine Owe.o ?_ | refine Owe.mk ?_ ?_) | (refine Fork.same ?_; (first | refine fkD ?_ ?_ | refine fkN ?_ ?_ | refine fkM ?_ ?_) <;> intro h) | refine MvQ.stay ?_)
  refine Sat.lp (fun k : Nat => ⟨[(11, vi .i64 k), (10, vi .i64 l.length), (9, .c (vws l)), (1, .c (.fn 103 [0]))], [(0, .box (seb (w, g, l, m)))], 1⟩) (fun k => k ≤ l.length ∧ E = eachE (vwE w g) k (l.drop k)) (fun k => l.length - k) 0 [] ⟨Nat.zero_le _, hE⟩ ?_ ?_
  · (refine qis ?_ ?_ <;> (repeat' first | exact rfl | (refine qS ?_; constructor)))
  · intro k hk
    refine Fork.dec (fun hlt => ?_) (fun hlt => ?_)
    · have hlt : k < l.length := by omega
      have e := eachE_drop (vwE w g) vwd l k hlt
      (repeat' first | (refine Owe.same ?_; first | refine Owe.o ?_ | refine Owe.mk ?_ ?_) | (refine Fork.same ?_; (first | refine fkD ?_ ?_ | refine fkN ?_ ?_ | refine fkM ?_ ?_) <;> intro h) | refine MvQ.stay ?_)
      refine Ops.cs rfl rfl (CallS.of fn103 rfl ?_)
      have c43 := C43 (r := (l.getD k vwd).1) (w := w) (g := g) ⟨by omega, by omega⟩
      (repeat' first | (refine Owe.same ?_; first | refine Owe.o ?_ | refine Owe.mk ?_ ?_) | (refine Fork.same ?_; (first | refine fkD ?_ ?_ | refine fkN ?_ ?_ | refine fkM ?_ ?_) <;> intro h) | ((first | refine OpsL.same ?_ | refine OpsDL.same ?_); first | refine pK c43 rfl rfl ?_ | refine pK C50 rfl rfl ?_ | refine pK C49 rfl rfl ?_ | refine pK C47 rfl rfl ?_) | refine MvQ.stay ?_)
      · have h9 := vwE_of h rfl
        have h9 : ¬ vwE w g (l.getD k vwd) = 0 := h9
        rw [if_neg h9, ← hk.2] at e
        have hE2 : ¬ E.2 = 0 := by rw [e]; exact h9
        (refine rqK rfl ?_; (repeat' first | exact rfl | (refine qS ?_; constructor)))
        · rw [if_neg hE2, e]
        · rw [if_neg hE2, e]; rfl
      · rename_i h1
        exact absurd h h1
      · have h9 : vwE w g (l.getD k vwd) = 0 := h
        rw [if_pos h9, ← hk.2] at e
        refine again (k + 1) [] ⟨hlt, e⟩ (by omega) ?_
        (refine qis ?_ ?_ <;> (repeat' first | exact rfl | (refine qS ?_; constructor)))
    · (repeat' first | (refine Owe.same ?_; first | refine Owe.o ?_ | refine Owe.mk ?_ ?_) | (refine Fork.same ?_; (first | refine fkD ?_ ?_ | refine fkN ?_ ?_ | refine fkM ?_ ?_) <;> intro h) | refine MvQ.stay ?_)
      · exact absurd rfl h
      · have : k = l.length := by omega
        subst this
        have e : E = (0, 0) := by rw [hk.2, List.drop_of_length_le (Nat.le_refl _)]; rfl
        rw [e, if_pos rfl]
        (repeat' first | (refine Owe.same ?_; first | refine Owe.o ?_ | refine Owe.mk ?_ ?_) | (refine Fork.same ?_; (first | refine fkD ?_ ?_ | refine fkN ?_ ?_ | refine fkM ?_ ?_) <;> intro h) | refine MvQ.stay ?_)
        obtain ⟨q, hq⟩ : ∃ q, q = eachW (w * g) (-1) 0 m := ⟨_, rfl⟩
        rw [← hq]
        have mwg : 1 ≤ w * g ∧ w * g ≤ 144 := by
          have h1 : (1 : Int) * 1 ≤ w * g := Int.mul_le_mul hb.1.1.1 hb.1.2.1 (by decide) (by omega)
          have h2 : w * g ≤ 12 * 12 := Int.mul_le_mul hb.1.1.2 hb.1.2.2 (by omega) (by decide)
          omega
        refine Ops.cs rfl rfl (CallS.of fn104 rfl ?_)
        (repeat' first | (refine Owe.same ?_; first | refine Owe.o ?_ | refine Owe.mk ?_ ?_) | (refine Fork.same ?_; (first | refine fkD ?_ ?_ | refine fkN ?_ ?_ | refine fkM ?_ ?_) <;> intro h) | refine MvQ.stay ?_)
        refine Sat.lp (fun k : Nat => ⟨[(11, vi .i64 k), (10, vi .i64 m.length), (9, .c (ints m)), (1, .c (.fn 105 [0, 1]))], [(1, .box [int (if k = 0 then -1 else m.getD (k - 1) 0)]), (0, .box (seb (w, g, l, m)))], 2⟩) (fun k => k ≤ m.length ∧ q = eachW (w * g) (if k = 0 then -1 else m.getD (k - 1) 0) k (m.drop k)) (fun k => m.length - k) 0 [] ⟨Nat.zero_le _, hq⟩ ?_ ?_
        · (refine qis ?_ ?_ <;> (repeat' first | exact rfl | (refine qS ?_; constructor)))
        · intro k hk
          refine Fork.dec (fun hlt => ?_) (fun hlt => ?_)
          · have hlt : k < m.length := by omega
            obtain ⟨last, hla⟩ : ∃ x, x = if k = 0 then -1 else m.getD (k - 1) 0 := ⟨_, rfl⟩
            rw [← hla] at hk ⊢
            have e := eachW_drop (w * g) last m k hlt
            (repeat' first | (refine Owe.same ?_; first | refine Owe.o ?_ | refine Owe.mk ?_ ?_) | (refine Fork.same ?_; (first | refine fkD ?_ ?_ | refine fkN ?_ ?_ | refine fkM ?_ ?_) <;> intro h) | refine MvQ.stay ?_)
            refine Ops.cs rfl rfl (CallS.of fn105 rfl ?_)
            (repeat' first | (refine Owe.same ?_; first | refine Owe.o ?_ | refine Owe.mk ?_ ?_) | (refine Fork.same ?_; (first | refine fkD ?_ ?_ | refine fkN ?_ ?_ | refine fkM ?_ ?_) <;> intro h) | ((first | refine OpsL.same ?_ | refine OpsDL.same ?_); first | refine pK C50 rfl rfl ?_ | refine pK C49 rfl rfl ?_ | refine pK C47 rfl rfl ?_) | refine MvQ.stay ?_)
            · have h : ¬ wnE (w * g) last (m.getD k 0) = 0 := h
              rw [if_neg h, ← hk.2] at e
              (refine rqK rfl ?_; (repeat' first | exact rfl | (refine qS ?_; constructor)))
              · rw [e]
              · rw [e]; rfl
            · have h : wnE (w * g) last (m.getD k 0) = 0 := h
              rw [if_pos h, ← hk.2] at e
              refine again (k + 1) [] ⟨hlt, ?_⟩ (by omega) ?_
              · rw [if_neg (by omega)]; exact e
              · (refine qis ?_ ?_ <;> (repeat' first | exact rfl | (refine qS ?_; constructor)))
          · (repeat' first | (refine Owe.same ?_; first | refine Owe.o ?_ | refine Owe.mk ?_ ?_) | (refine Fork.same ?_; (first | refine fkD ?_ ?_ | refine fkN ?_ ?_ | refine fkM ?_ ?_) <;> intro h) | refine MvQ.stay ?_)
            have : k = m.length := by omega
            subst this
            have e : q = (0, 0) := by rw [hk.2, List.drop_of_length_le (Nat.le_refl _)]; rfl
            subst e
            (refine rqK rfl ?_; (repeat' first | exact rfl | (refine qS ?_; constructor)))
end Go.Pw

set_option linter.unusedSimpArgs false
namespace Go.Pw
set_option maxRecDepth 2000
open Go Go.Proofs A1 A2 A3 A4
theorem C124 {n : Int} : PFD Try.prog 124 [vi .i64 n] (vbl false) := by
  refine pi1 fn124 ?_
  (repeat' first | (refine Owe.same ?_; first | refine Owe.o ?_ | refine Owe.mk ?_ ?_) | (refine Fork.same ?_; (first | refine fkD ?_ ?_ | refine fkN ?_ ?_ | refine fkM ?_ ?_) <;> intro h) | refine MvQ.stay ?_)
  (refine rqK rfl ?_; (repeat' first | exact rfl | (refine qS ?_; constructor)))
  simp
/-- Where a number is, or would be. -/
def bsN (x : Int) (l : List Int) : Nat := (l.takeWhile fun y => decide (y < x)).length
/-- Ascending numbers. -/
abbrev srt (l : List Int) : Prop := ∀ i j, i < j → j < l.length → l.getD i 0 < l.getD j 0
theorem bsN_eq {x : Int} : ∀ {l : List Int} {i : Nat}, i ≤ l.length → (∀ t, t < i → l.getD t 0 < x) → (i < l.length → x ≤ l.getD i 0) → bsN x l = i
  | [], i, h, _, _ => by simp at h; subst h; rfl
  | y :: l, 0, _, _, h => by
    have := h (by simp)
    have : ¬ y < x := by simp at this; omega
    simp [bsN, List.takeWhile_cons, this]
  | y :: l, i + 1, h, h1, h2 => by
    have h3 := h1 0 (by omega)
    have h3 : y < x := by simpa using h3
    have ih := bsN_eq (x := x) (l := l) (i := i) (by simpa using h) (fun t ht => by have := h1 (t + 1) (by omega); simpa using this) (fun hi => by have := h2 (by simpa using hi); simpa using this)
    rw [bsN] at ih
    simp [bsN, List.takeWhile_cons, h3, ih]
theorem half_eq {i j : Nat} (h : i + j < 4611686018427387904) : (IntKind.u64.wrap ((i : Int) + j)).fdiv (2 ^ min (Int.toNat 1) IntKind.u64.bits) = (((i + j) / 2 : Nat) : Int) := by
  have e : (2 : Int) ^ min (Int.toNat 1) IntKind.u64.bits = 2 := by decide
  rw [u64_wrap, e, Int.fdiv_eq_ediv_of_nonneg _ (by decide)]
  omega
theorem C106 {l : List Int} {x : Int} : (l.length ≤ 1000000 ∧ srt l) → PFD Try.prog 106 [.c (ints l), vi .i64 x] (.tup [vi .i64 (bsN x l), vbl (decide (bsN x l < l.length ∧ l.getD (bsN x l) 0 = x))]) := fun ⟨hl, hs⟩ => by
  obtain ⟨b, hb⟩ : ∃ b, b = bsN x l := ⟨_, rfl⟩
  rw [← hb]
  refine pi2 fn106 ?_
  (repeat' first | (refine Owe.same ?_; first | refine Owe.o ?_ | refine Owe.mk ?_ ?_) | (refine Fork.same ?_; (first | refine fkD ?_ ?_ | refine fkN ?_ ?_ | refine fkM ?_ ?_) <;> intro h) | refine MvQ.stay ?_)
  refine Sat.lp0 (fun p : Nat × Nat => [(7, vi .i64 p.1), (8, vi .i64 p.2), (6, vi .i64 l.length), (0, .c (ints l)), (1, vi .i64 x)]) (fun p => (p.1 ≤ p.2 ∧ p.2 ≤ l.length) ∧ (∀ t, t < p.1 → l.getD t 0 < x) ∧ ∀ t, p.2 ≤ t → t < l.length → x ≤ l.getD t 0) (fun p => p.2 - p.1) (0, l.length) ⟨⟨Nat.zero_le _, Nat.le_refl _⟩, fun t h => absurd h (by omega), fun t h1 h2 => absurd h1 (by omega)⟩ (by ((first | refine qen ?_ | refine qvs ?_ | refine qeq ?_ | refine qst ?_ | refine qv ?_ | refine qc ?_ | refine qe ?_ | refine qcs ?_ | skip); (repeat' first | exact rfl | (refine qS ?_; constructor)))) ?_
  intro p hp
  obtain ⟨⟨h1, h2⟩, h3, h4⟩ := hp
  have hm := half_eq (i := p.1) (j := p.2) (by omega)
  refine Fork.dec (fun hlt => ?_) (fun hlt => ?_)
  · have hlt : p.1 < p.2 := by omega
    (repeat' first | (refine Owe.same ?_; first | refine Owe.o ?_ | refine Owe.mk ?_ ?_) | (refine Fork.same ?_; (first | refine fkD ?_ ?_ | refine fkN ?_ ?_ | refine fkM ?_ ?_) <;> intro h) | ((first | refine OpsL.same ?_ | refine OpsDL.same ?_); first | refine pK C123 rfl rfl ?_) | refine MvQ.stay ?_)
    · rw [hm] at h ⊢
      have h : l.getD ((p.1 + p.2) / 2) 0 < x := h
      refine again0 ((p.1 + p.2) / 2 + 1, p.2) ⟨by omega, fun t ht => ?_, h4⟩ (by omega) (by ((first | refine qen ?_ | refine qvs ?_ | refine qeq ?_ | refine qst ?_ | refine qv ?_ | refine qc ?_ | refine qe ?_ | refine qcs ?_ | skip); (repeat' first | exact rfl | (refine qS ?_; constructor))))
      rcases Nat.lt_or_eq_of_le (show t ≤ (p.1 + p.2) / 2 by omega) with h5 | h5
      · exact Int.lt_trans (hs t _ h5 (by omega)) h
      · rw [h5]; exact h
    · rw [hm] at h ⊢
      have h : ¬ l.getD ((p.1 + p.2) / 2) 0 < x := h
      (repeat' first | (refine Owe.same ?_; first | refine Owe.o ?_ | refine Owe.mk ?_ ?_) | (refine Fork.same ?_; (first | refine fkD ?_ ?_ | refine fkN ?_ ?_ | refine fkM ?_ ?_) <;> intro h) | refine MvQ.stay ?_)
      refine again0 (p.1, (p.1 + p.2) / 2) ⟨by omega, h3, fun t h5 h6 => ?_⟩ (by simp only; omega) (by ((first | refine qen ?_ | refine qvs ?_ | refine qeq ?_ | refine qst ?_ | refine qv ?_ | refine qc ?_ | refine qe ?_ | refine qcs ?_ | skip); (repeat' first | exact rfl | (refine qS ?_; constructor))))
      rcases Nat.lt_or_eq_of_le h5 with h7 | h7
      · have := hs _ t h7 h6; simp only at this; omega
      · rw [← h7]; simp only; omega
  · have e : p.1 = p.2 := by omega
    have hbe : b = p.1 := hb.trans (bsN_eq (by omega) h3 fun h => h4 _ (by omega) h)
    rw [hbe]
    (repeat' first | (refine Owe.same ?_; first | refine Owe.o ?_ | refine Owe.mk ?_ ?_) | (refine Fork.same ?_; (first | refine fkD ?_ ?_ | refine fkN ?_ ?_ | refine fkM ?_ ?_) <;> intro h) | ((first | refine OpsL.same ?_ | refine OpsDL.same ?_); first | refine pK C124 rfl rfl ?_) | refine MvQ.stay ?_)
    · have h : l.getD p.1 0 = x := h
      rename_i h9
      have h9 : p.1 < l.length := by omega
      (refine rqK rfl ?_; (repeat' first | exact rfl | (refine qS ?_; constructor)))
      rw [decide_eq_true ⟨h9, h⟩]
    · exact absurd h (by decide)
    · rename_i h9 h8
      have h8 : ¬ l.getD p.1 0 = x := h8
      (refine rqK rfl ?_; (repeat' first | exact rfl | (refine qS ?_; constructor)))
      rw [decide_eq_false fun hh => h8 hh.2]
    · have h9 : ¬ p.1 < l.length := by omega
      (refine rqK rfl ?_; (repeat' first | exact rfl | (refine qS ?_; constructor)))
      rw [decide_eq_false fun hh => h9 hh.1]
end Go.Pw

set_option linter.unusedVariables false
set_option maxHeartbeats 2000000
set_option maxRecDepth 100000
namespace Go.Pw
open Go Go.Proofs
/-- moonpool/sonar.CoverOf -/
def lc40u : LCode :=
  (.seq (.region [⟨some 1, .box (.tmp 0), none⟩, ⟨some 2, .mv (.const (.slice none 0 0)), none⟩, ⟨some 3, .mv (.const (.int .i64 0)), none⟩, ⟨some 4, .mv (.const (.int .i64 0)),
    none⟩]) (.seq (.seq (.region [⟨some 12, .load true 4 (.tmp 1), none⟩, ⟨some 13, .call (.func 76) [(.tmp 12)], none⟩, ⟨some 11, .mv (.tmp 13), none⟩, ⟨some 14, .ext (.tmp 11) 0,
    none⟩, ⟨some 15, .ext (.tmp 11) 1, none⟩, ⟨some 5, .mv (.tmp 14), none⟩, ⟨some 6, .mv (.tmp 15), none⟩]) (.seq (.region [⟨some 16, .mv (.tmp 6), none⟩, ⟨some 17, .bin .neq (.tmp
    16) (.const (.int .i64 0)), none⟩]) (.cond (.tmp 17) (.seq (.region [⟨some 18, .mv (.tmp 6), none⟩, ⟨some 2, .mv (.const (.slice none 0 0)), none⟩, ⟨some 3, .mv (.const (.int
    .i64 0)), none⟩, ⟨some 4, .mv (.tmp 18), none⟩]) .ret) .skip))) (.seq (.region [⟨some 19, .load true 4 (.tmp 1), none⟩, ⟨some 20, .call (.func 77) [(.tmp 19)], none⟩, ⟨some 7,
    .alloc [(.slice none 0 0)], none⟩, ⟨none, .store 1 (.tmp 7) (.tmp 20), none⟩]) (.seq (.stop (.region [⟨some 22, .fld 2 (.tmp 1), none⟩, ⟨some 23, .load false 1 (.tmp 22), none⟩,
    ⟨some 24, .len (.tmp 23), none⟩, ⟨some 25, .mkfn 78 [(.tmp 1), (.tmp 7)], none⟩, ⟨some 26, .call (.func 68) [(.tmp 24), (.tmp 25)], none⟩, ⟨some 21, .mv (.tmp 26), none⟩, ⟨some
    27, .ext (.tmp 21) 0, none⟩, ⟨some 28, .ext (.tmp 21) 1, none⟩, ⟨some 29, .ext (.tmp 21) 2, none⟩, ⟨some 8, .mv (.tmp 27), none⟩, ⟨some 9, .mv (.tmp 28), none⟩, ⟨some 10, .mv
    (.tmp 29), none⟩])) (.seq (.region [⟨some 30, .mv (.tmp 8), none⟩, ⟨some 31, .mv (.tmp 9), none⟩, ⟨some 32, .mv (.tmp 10), none⟩, ⟨some 33, .call (.func 49) [(.tmp 32), (.const
    (.int .i64 12))], none⟩, ⟨some 2, .mv (.tmp 30), none⟩, ⟨some 3, .mv (.tmp 31), none⟩, ⟨some 4, .mv (.tmp 33), none⟩]) .ret)))))
theorem low40u : lowF Try.prog [] Try.f40 = some (34, lc40u.strip, [.tmp 2, .tmp 3, .tmp 4]) := by kernel_rfl
theorem fn40u : FnOk Try.prog 40 34 lc40u [.tmp 2, .tmp 3, .tmp 4] := ⟨Try.call40, [], _, Try.func40, low40u⟩
end Go.Pw

set_option linter.unusedSimpArgs false
namespace Go.Pw
set_option maxRecDepth 2000
open Go Go.Proofs A1 A2 A3 A4
abbrev seD (x : Se) : List D := [dI x.1, dI x.2.1, .sl 6 x.2.2.1.length fun i => r6 (x.2.2.1.getD i vwd), .sl 1 x.2.2.2.length fun i => r1 (x.2.2.2.getD i 0)]
structure SeOk (x : Se) : Prop where
  w : 1 ≤ x.1 ∧ x.1 ≤ 12
  h : 1 ≤ x.2.1 ∧ x.2.1 ≤ 12
  n : x.2.2.1.length ≤ 10
  v : ∀ i, i < x.2.2.1.length → ryOk (x.2.2.1.getD i vwd).1 x.1 x.2.1 ∧ 0 ≤ (x.2.2.1.getD i vwd).2 ∧ (x.2.2.1.getD i vwd).2 ≤ 1000
  m : ∀ y ∈ x.2.2.2, 0 ≤ y ∧ y ≤ x.1 * x.2.1 - 1
  s : srt x.2.2.2
theorem wnE_ok {M last y : Int} : wnE M last y = 0 ↔ (0 ≤ y ∧ y ≤ M - 1) ∧ last < y := by
  rw [wnE, fst2, unl0 (by decide), unl0 (by decide)]
theorem vwE_ok {w h : Int} {v : Vw} : vwE w h v = 0 ↔ ryOk v.1 w h ∧ 0 ≤ v.2 ∧ v.2 ≤ 1000 := by
  rw [vwE, fst2, unl0 (by decide), unl0 (by decide)]
theorem eachW_ok {M : Int} : ∀ {m : List Int} {last : Int} {k : Nat}, (eachW M last k m).2 = 0 ↔ (∀ y ∈ m, last < y ∧ 0 ≤ y ∧ y ≤ M - 1) ∧ m.Pairwise (· < ·)
  | [], last, k => by simp [eachW]
  | y :: m, last, k => by
    rw [eachW]
    split
    · rename_i h
      rw [eachW_ok]
      have h1 := wnE_ok.1 h
      constructor
      · rintro ⟨h2, h3⟩
        refine ⟨fun z hz => ?_, List.pairwise_cons.2 ⟨fun z hz => (h2 z hz).1, h3⟩⟩
        rcases List.mem_cons.1 hz with rfl | hz
        · exact ⟨h1.2, h1.1⟩
        · have := h2 z hz; exact ⟨by omega, this.2⟩
      · rintro ⟨h2, h3⟩
        obtain ⟨h4, h5⟩ := List.pairwise_cons.1 h3
        exact ⟨fun z hz => ⟨h4 z hz, (h2 z (List.mem_cons_of_mem _ hz)).2⟩, h5⟩
    · rename_i h
      constructor
      · intro h1; exact absurd h1 h
      · rintro ⟨h2, _⟩
        have := h2 y (List.mem_cons_self ..)
        exact absurd (wnE_ok.2 ⟨this.2, this.1⟩) h
theorem srt_of {m : List Int} (h : m.Pairwise (· < ·)) : srt m := fun i j hij hj => by
  have := List.pairwise_iff_getElem.1 h i j (by omega) hj hij
  simpa [List.getD_eq_getElem?_getD, List.getElem?_eq_getElem, hj, show i < m.length by omega] using this
theorem of_srt {m : List Int} (h : srt m) : m.Pairwise (· < ·) := List.pairwise_iff_getElem.2 fun i j hi hj hij => by
  have := h i j hij hj
  simpa [List.getD_eq_getElem?_getD, List.getElem?_eq_getElem, hj, hi] using this
theorem seE_ok {x : Se} : (seE x).2 = 0 ↔ SeOk x := by
  rw [seE]
  constructor
  · intro h
    split at h
    · rename_i h0
      have hg := gridE_ok.1 h0
      split at h
      · rename_i h1
        have h2 := eachE_ok.1 h1
        obtain ⟨h3, h4⟩ := eachW_ok.1 h
        exact ⟨hg.1.1, hg.1.2, by omega, fun i hi => vwE_ok.1 (h2 _ (getD_mem _ hi)), fun y hy => (h3 y hy).2, srt_of h4⟩
      · rename_i h1; exact absurd h h1
    · rename_i h0; exact absurd h h0
  · intro h
    rw [if_pos (gridE_ok.2 ⟨⟨h.w, h.h⟩, by have := h.n; omega⟩), if_pos (eachE_ok.2 fun v hv => ?_)]
    · exact eachW_ok.2 ⟨fun y hy => ⟨by have := h.m y hy; omega, h.m y hy⟩, of_srt h.s⟩
    · obtain ⟨i, hi, rfl⟩ := List.getElem_of_mem hv
      have := h.v i hi
      rw [List.getD_eq_getElem?_getD, List.getElem?_eq_getElem hi] at this
      exact vwE_ok.2 this
theorem srt_len : ∀ {m : List Int} {lo hi : Int}, lo ≤ hi + 1 → m.Pairwise (· < ·) → (∀ y ∈ m, lo ≤ y ∧ y ≤ hi) → (m.length : Int) ≤ hi - lo + 1
  | [], lo, hi, hle, _, _ => by simp; omega
  | y :: m, lo, hi, hle, h, hb => by
    obtain ⟨h1, h2⟩ := List.pairwise_cons.1 h
    have h3 := hb y (List.mem_cons_self ..)
    have := srt_len (m := m) (lo := y + 1) (hi := hi) (by omega) h2 fun z hz => ⟨by have := h1 z hz; omega, (hb z (List.mem_cons_of_mem _ hz)).2⟩
    simp only [List.length_cons]; omega
theorem SeOk.wg {x : Se} (h : SeOk x) : 1 ≤ x.1 * x.2.1 ∧ x.1 * x.2.1 ≤ 144 := by
  have h1 : (1 : Int) * 1 ≤ x.1 * x.2.1 := Int.mul_le_mul h.w.1 h.h.1 (by decide) (by have := h.w; omega)
  have h2 : x.1 * x.2.1 ≤ 12 * 12 := Int.mul_le_mul h.w.2 h.h.2 (by have := h.h; omega) (by decide)
  omega
theorem SeOk.len {x : Se} (h : SeOk x) : x.2.2.2.length ≤ 144 := by
  have := srt_len (lo := 0) (hi := x.1 * x.2.1 - 1) (by have := h.wg; omega) (of_srt h.s) h.m
  have := h.wg
  omega
/-- The number of a cell. -/
abbrev celN (w : Int) (c : Cel) : Int := c.2 * w + c.1
/-- Whether a number is wanted. -/
abbrev isW (m : List Int) (n : Int) : Prop := bsN n m < m.length ∧ m.getD (bsN n m) 0 = n
/-- The indexes of the wanted cells among so many that a ray crosses. -/
def snJ (w : Int) (m : List Int) (r : Ry) : Nat → List Int
  | 0 => []
  | j + 1 => if isW m (celN w ((crS r).getD j (0, 0))) then snJ w m r j ++ [(bsN (celN w ((crS r).getD j (0, 0))) m : Int)] else snJ w m r j
theorem snJ_len (w : Int) (m : List Int) (r : Ry) : ∀ j, (snJ w m r j).length ≤ j
  | 0 => Nat.le_refl _
  | j + 1 => by
    have := snJ_len w m r j
    rw [snJ]; split
    · simp; omega
    · omega
/-- What a view sees. -/
def snR (w : Int) (m : List Int) (r : Ry) : List Int := snJ w m r (crS r).length
abbrev rL (l : List Int) : List D := [.sl 1 l.length fun i => r1 (l.getD i 0)]
abbrev rLs (L : List (List Int)) : List D := [.sl 1 L.length fun i => rL (L.getD i [])]
abbrev lls (L : List (List Int)) : C := slv 1 rL [] L
/-- What so many views see. -/
abbrev snK (x : Se) (k : Nat) : List (List Int) := accL (fun i => snR x.1 x.2.2.2 (x.2.2.1.getD i vwd).1) k
abbrev snS (x : Se) : List (List Int) := snK x x.2.2.1.length
theorem C77 {x : Se} : SeOk x → PFD Try.prog 77 [sev x] (.c (lls (snS x))) := fun hO => by
  have hm := hO.len
  obtain ⟨w, g, l, m⟩ := x
  have hw := hO.w; have hh := hO.h; have hn := hO.n
  have hs : srt m := hO.s
  simp only at hw hh hn hm
  obtain ⟨S, hS⟩ : ∃ S, S = snS (w, g, l, m) := ⟨_, rfl⟩
  rw [← hS]
  refine pi1 fn77 ?_
  (repeat' first | (refine Owe.same ?_; first | refine Owe.o ?_ | refine Owe.mk ?_ ?_) | (refine Fork.same ?_; (first | refine fkD ?_ ?_ | refine fkN ?_ ?_ | refine fkM ?_ ?_) <;> intro h) | refine MvQ.stay ?_)
  refine Sat.nilS 3 43 1 (fun i => rL (([] : List (List Int)).getD i [])) rfl ?_
  refine Sat.lp (fun k : Nat => ⟨[(14, vi .i64 k), (13, vi .i64 l.length), (12, .c (vws l)), (1, .c (.rp (seD (w, g, l, m)))), (3, .c (.ms 0 (snK (w, g, l, m) k).length))], [(0, rowv 43 1 rL [] (snK (w, g, l, m) k))], 1⟩)
    (fun k => k ≤ l.length) (fun k => l.length - k) 0 [0] (Nat.zero_le _) ?_ ?_
  · (refine qis ?_ ?_ <;> (repeat' first | exact rfl | (refine qS ?_; constructor)))
  · intro k hk
    have hkl : (snK (w, g, l, m) k).length = k := accL_len _ k
    have hks := accL_succ (fun i => snR w m (l.getD i vwd).1) k
    refine Fork.dec (fun hlt => ?_) (fun hlt => ?_)
    · have hltk : k < l.length := by omega
      have hr := (hO.v k hltk).1
      simp only at hr
      have hr12 : ryOk (l.getD k vwd).1 12 12 := by simp only [ryOk, inG] at hr ⊢; omega
      have c44 := C44 hr12
      have hin : ∀ c ∈ crS (l.getD k vwd).1, inG c w g := fun c hc => crS_in hr hc
      have hcl : (crS (l.getD k vwd).1).length ≤ 12 * 12 := by
        have h1 := wn_le hr12
        have h2 := hn_le hr12
        exact Nat.le_trans crS_len (Nat.mul_le_mul (by omega) (by omega))
      (repeat' first | (refine Owe.same ?_; first | refine Owe.o ?_ | refine Owe.mk ?_ ?_) | (refine Fork.same ?_; (first | refine fkD ?_ ?_ | refine fkN ?_ ?_ | refine fkM ?_ ?_) <;> intro h) | ((first | refine OpsL.same ?_ | refine OpsDL.same ?_); first | refine pK c44 rfl rfl ?_) | refine MvQ.stay ?_)
      refine Sat.nilS 6 3 1 (fun i => r1 (([] : List Int).getD i 0)) rfl ?_
      refine Sat.lp (fun j : Nat => ⟨[(22, vi .i64 j), (21, vi .i64 (crS (l.getD k vwd).1).length), (20, .c (prs (crS (l.getD k vwd).1))), (1, .c (.rp (seD (w, g, l, m)))), (6, .c (.ms 1 (snJ w m (l.getD k vwd).1 j).length)),
          (14, vi .i64 k), (13, vi .i64 l.length), (12, .c (vws l)), (3, .c (.ms 0 (snK (w, g, l, m) k).length))], [(0, rowv 43 1 rL [] (snK (w, g, l, m) k)), (1, rowv 3 1 r1 0 (snJ w m (l.getD k vwd).1 j))], 2⟩)
        (fun j => j ≤ (crS (l.getD k vwd).1).length) (fun j => (crS (l.getD k vwd).1).length - j) 0 [0, 2] (Nat.zero_le _) ?_ ?_
      · (refine qis ?_ ?_ <;> (repeat' first | exact rfl | (refine qS ?_; constructor)))
      · intro j hj
        have hjl := snJ_len w m (l.getD k vwd).1 j
        refine Fork.dec (fun hlt => ?_) (fun hlt => ?_)
        · have hlt : j < (crS (l.getD k vwd).1).length := by omega
          have hc := hin _ (getD_mem (0, 0) hlt)
          simp only [inG] at hc
          have c106 := C106 (l := m) (x := celN w ((crS (l.getD k vwd).1).getD j (0, 0))) ⟨by omega, hs⟩
          (repeat' first | (refine Owe.same ?_; first | refine Owe.o ?_ | refine Owe.mk ?_ ?_) | (refine Fork.same ?_; (first | refine fkD ?_ ?_ | refine fkN ?_ ?_ | refine fkM ?_ ?_) <;> intro h) | ((first | refine OpsL.same ?_ | refine OpsDL.same ?_); first | refine pK C107 rfl rfl ?_ | refine pK c106 rfl rfl ?_) | refine MvQ.stay ?_)
          · have h : isW m (celN w ((crS (l.getD k vwd).1).getD j (0, 0))) := h
            have e : snJ w m (l.getD k vwd).1 (j + 1) = snJ w m (l.getD k vwd).1 j ++ [(bsN (celN w ((crS (l.getD k vwd).1).getD j (0, 0))) m : Int)] := by rw [snJ, if_pos h]
            refine again (j + 1) [0, 13] hlt (by omega) ?_
            (refine qis ?_ ?_ <;> (repeat' first | exact rfl | (refine qS ?_; constructor)))
            · rw [e]; simp
            · exact e
          · have h : ¬ isW m (celN w ((crS (l.getD k vwd).1).getD j (0, 0))) := h
            have e : snJ w m (l.getD k vwd).1 (j + 1) = snJ w m (l.getD k vwd).1 j := by rw [snJ, if_neg h]
            refine again (j + 1) [0, 1] hlt (by omega) ?_
            (refine qis ?_ ?_ <;> (repeat' first | exact rfl | (refine qS ?_; constructor)))
            · rw [e]
            · rw [e]
        · have : j = (crS (l.getD k vwd).1).length := by omega
          subst this
          (repeat' first | (refine Owe.same ?_; first | refine Owe.o ?_ | refine Owe.mk ?_ ?_) | (refine Fork.same ?_; (first | refine fkD ?_ ?_ | refine fkN ?_ ?_ | refine fkM ?_ ?_) <;> intro h))
          refine MvQ.frz 6 _ rfl rfl (Nat.le_refl _) ?_
          (repeat' first | (refine Owe.same ?_; first | refine Owe.o ?_ | refine Owe.mk ?_ ?_) | (refine Fork.same ?_; (first | refine fkD ?_ ?_ | refine fkN ?_ ?_ | refine fkM ?_ ?_) <;> intro h) | refine MvQ.stay ?_)
          refine again (k + 1) [2] hltk (by omega) ?_
          (refine qis ?_ ?_ <;> (repeat' first | exact rfl | (refine qS ?_; constructor)))
          · show (snK (w, g, l, m) k).length + 1 = _
            rw [hkl]; exact (accL_len _ _).symm
          · exact ⟨_, rfl, hks⟩
    · (repeat' first | (refine Owe.same ?_; first | refine Owe.o ?_ | refine Owe.mk ?_ ?_) | (refine Fork.same ?_; (first | refine fkD ?_ ?_ | refine fkN ?_ ?_ | refine fkM ?_ ?_) <;> intro h) | refine MvQ.stay ?_)
      have : k = l.length := by omega
      subst this
      subst hS
      refine rqF 0 _ rfl rfl rfl ?_; (repeat' first | exact rfl | (refine qS ?_; constructor))
/-- The costs of so many views of a set. -/
def cvC (l : List Vw) (t : List Int) : Nat → Int
  | 0 => 0
  | k + 1 => cvC l t k + (l.getD (t.getD k 0).toNat vwd).2
/-- A map with more keys. -/
def putL (es : List (Int × Int)) : List Int → List (Int × Int)
  | [] => es
  | y :: l => putL (mput es y 0) l
def cvM (L : List (List Int)) (t : List Int) : Nat → List (Int × Int)
  | 0 => []
  | k + 1 => putL (cvM L t k) (L.getD (t.getD k 0).toNat [])
/-- The cost of a set of views, and whether they see all that is wanted. -/
def cvF (x : Se) (L : List (List Int)) (t : List Int) : Int × Bool := (cvC x.2.2.1 t t.length, decide ((cvM L t t.length).length = x.2.2.2.length))
theorem putL_take {es : List (Int × Int)} : ∀ {l : List Int} {j : Nat}, j < l.length → putL es (l.take (j + 1)) = mput (putL es (l.take j)) (l.getD j 0) 0
  | [], j, h => by simp at h
  | y :: l, 0, h => by simp [putL]
  | y :: l, j + 1, h => by
    simp only [List.take_succ_cons, putL, List.getD_cons_succ]
    exact putL_take (by simpa using h)
theorem cvC_bd {l : List Vw} {t : List Int} (h : ∀ i, 0 ≤ (l.getD i vwd).2 ∧ (l.getD i vwd).2 ≤ 1000) : ∀ k, 0 ≤ cvC l t k ∧ cvC l t k ≤ 1000 * k
  | 0 => by simp [cvC]
  | k + 1 => by
    have := cvC_bd (t := t) h k
    have := h (t.getD k 0).toNat
    simp only [cvC]; omega
theorem C78 {x : Se} {L : List (List Int)} {t : List Int} (hO : SeOk x) (hL : L.length = x.2.2.1.length ∧ ∀ i, (L.getD i []).length ≤ 1000) (ht : t.length ≤ 1000000) (hx : ∀ y ∈ t, 0 ≤ y ∧ y < x.2.2.1.length) : PFD Try.prog 78 [.c (ints t), .c (.rp (seD x)), .c (.rp (rLs L))] (.tup [vi .i64 (cvF x L t).1, vbl (cvF x L t).2]) := by
  obtain ⟨w, g, l, m⟩ := x
  have hn := hO.n
  have hm := hO.len
  simp only at hn hm hL hx
  have hlb : ∀ i, 0 ≤ (l.getD i vwd).2 ∧ (l.getD i vwd).2 ≤ 1000 := fun i => by
    rcases Nat.lt_or_ge i l.length with h | h
    · exact (hO.v i h).2
    · rw [List.getD_eq_getElem?_getD, List.getElem?_eq_none h]; decide
  rw [show cvF (w, g, l, m) L t = (cvC l t t.length, decide ((cvM L t t.length).length = m.length)) from rfl]
  refine pi2 fn78 ?_
  (repeat' first | (refine Owe.same ?_; first | refine Owe.o ?_ | refine Owe.mk ?_ ?_) | (refine Fork.same ?_; (first | refine fkD ?_ ?_ | refine fkN ?_ ?_ | refine fkM ?_ ?_) <;> intro h) | refine MvQ.stay ?_)
  refine Sat.lp (fun k : Nat => ⟨[(15, vi .i64 k), (14, vi .i64 t.length), (13, .c (ints t)), (1, .c (.rp (seD (w, g, l, m)))), (2, .c (.rp (rLs L))), (6, vi .i64 (cvC l t k)), (7, .c (.mp 0))], [(0, .mp 0 (cvM L t k))], 1⟩)
    (fun k => k ≤ t.length) (fun k => t.length - k) 0 [0] (Nat.zero_le _) ?_ ?_
  · (refine qis ?_ ?_ <;> (repeat' first | exact rfl | (refine qS ?_; constructor)))
  · intro k hk
    have hcb := cvC_bd (t := t) hlb k
    refine Fork.dec (fun hlt => ?_) (fun hlt => ?_)
    · have hltk : k < t.length := by omega
      have ht := hx _ (getD_mem 0 hltk)
      have hLl := hL.2 (t.getD k 0).toNat
      have hv := hlb (t.getD k 0).toNat
      have e : cvC l t (k + 1) = cvC l t k + (l.getD (t.getD k 0).toNat vwd).2 := rfl
      (repeat' first | (refine Owe.same ?_; first | refine Owe.o ?_ | refine Owe.mk ?_ ?_) | (refine Fork.same ?_; (first | refine fkD ?_ ?_ | refine fkN ?_ ?_ | refine fkM ?_ ?_) <;> intro h) | refine MvQ.stay ?_)
      refine Sat.lp (fun j : Nat => ⟨[(32, vi .i64 j), (31, vi .i64 (L.getD (t.getD k 0).toNat []).length), (30, .c (ints (L.getD (t.getD k 0).toNat []))), (15, vi .i64 k), (14, vi .i64 t.length), (13, .c (ints t)), (1, .c (.rp (seD (w, g, l, m)))), (2, .c (.rp (rLs L))), (6, vi .i64 (cvC l t (k + 1))), (7, .c (.mp 0))], [(0, .mp 0 (putL (cvM L t k) ((L.getD (t.getD k 0).toNat []).take j)))], 1⟩)
        (fun j => j ≤ (L.getD (t.getD k 0).toNat []).length) (fun j => (L.getD (t.getD k 0).toNat []).length - j) 0 [0] (Nat.zero_le _) ?_ ?_
      · (refine qis ?_ ?_ <;> (repeat' first | exact rfl | (refine qS ?_; constructor)))
      · intro j hj
        refine Fork.dec (fun hlt => ?_) (fun hlt => ?_)
        · have hltj : j < (L.getD (t.getD k 0).toNat []).length := by omega
          have e2 := putL_take (es := cvM L t k) hltj
          (repeat' first | (refine Owe.same ?_; first | refine Owe.o ?_ | refine Owe.mk ?_ ?_) | (refine Fork.same ?_; (first | refine fkD ?_ ?_ | refine fkN ?_ ?_ | refine fkM ?_ ?_) <;> intro h) | refine MvQ.stay ?_)
          refine again (j + 1) [0] hltj (by omega) ?_
          rw [e2]
          (refine qis ?_ ?_ <;> (repeat' first | exact rfl | (refine qS ?_; constructor)))
        · have : j = (L.getD (t.getD k 0).toNat []).length := by omega
          (repeat' first | (refine Owe.same ?_; first | refine Owe.o ?_ | refine Owe.mk ?_ ?_) | (refine Fork.same ?_; (first | refine fkD ?_ ?_ | refine fkN ?_ ?_ | refine fkM ?_ ?_) <;> intro h) | refine MvQ.stay ?_)
          refine again (k + 1) [0] hltk (by omega) ?_
          have e3 : cvM L t (k + 1) = putL (cvM L t k) ((L.getD (t.getD k 0).toNat []).take j) := by rw [cvM, this, List.take_length]
          rw [e3]
          (refine qis ?_ ?_ <;> (repeat' first | exact rfl | (refine qS ?_; constructor)))
    · have : k = t.length := by omega
      subst this
      (repeat' first | (refine Owe.same ?_; first | refine Owe.o ?_ | refine Owe.mk ?_ ?_) | (refine Fork.same ?_; (first | refine fkD ?_ ?_ | refine fkN ?_ ?_ | refine fkM ?_ ?_) <;> intro h) | refine MvQ.stay ?_)
      (refine rqK rfl ?_; (repeat' first | exact rfl | (refine qS ?_; constructor)))
      exact decide_eq_decide.2 Int.ofNat_inj
theorem accL_get {α : Type} (f : Nat → α) {d : α} {n i : Nat} (h : i < n) : (accL f n).getD i d = f i := by
  simp [accL, List.getD_eq_getElem?_getD, h]
theorem snR_len {x : Se} (h : SeOk x) : ∀ i, ((snS x).getD i []).length ≤ 1000 := fun i => by
  rcases Nat.lt_or_ge i x.2.2.1.length with hi | hi
  · have hr := (h.v i hi).1
    have hw := h.w; have hh := h.h
    have hr12 : ryOk (x.2.2.1.getD i vwd).1 12 12 := by simp only [ryOk, inG] at hr ⊢; omega
    have h1 := wn_le hr12
    have h2 := hn_le hr12
    have h3 : (crS (x.2.2.1.getD i vwd).1).length ≤ 12 * 12 := Nat.le_trans crS_len (Nat.mul_le_mul (by omega) (by omega))
    have h4 := snJ_len x.1 x.2.2.2 (x.2.2.1.getD i vwd).1 (crS (x.2.2.1.getD i vwd).1).length
    rw [snS, snK, accL_get _ hi, snR]
    omega
  · rw [List.getD_eq_getElem?_getD, List.getElem?_eq_none (by rw [accL_len]; exact hi)]; decide
/-- The best cover. -/
abbrev cvB (x : Se) : BSt := bestK (cvF x (snS x)) x.2.2.1.length (2 ^ x.2.2.1.length)
theorem C40 {x : Se} : (x.2.2.1.length ≤ 1000000 ∧ x.2.2.2.length ≤ 1000000) → PFD Try.prog 40 [sev x] (.tup [.c (ints (if (seE x).2 = 0 then (cvB x).l else [])), vi .i64 (if (seE x).2 = 0 then (cvB x).p else 0), vi .i64 (if (seE x).2 = 0 then unb (cvB x).ok 12 else (seE x).2)]) := fun hl => by
  by_cases h0 : (seE x).2 = 0
  · have hO := seE_ok.1 h0
    have hn := hO.n
    have c76 := C76 hl
    have c77 := C77 hO
    have c68 := C68 (g := 78) (rows := [seD x, rLs (snS x)]) (c := cvF x (snS x)) (n := x.2.2.1.length) (fun t ht hx => C78 hO ⟨accL_len _ _, snR_len hO⟩ ht hx) (by omega)
    rw [if_pos h0, if_pos h0, if_pos h0]
    rw [h0] at c76
    have hlen := bestK_len (cvF x (snS x)) x.2.2.1.length (2 ^ x.2.2.1.length)
    rw [show bestK (cvF x (snS x)) x.2.2.1.length (2 ^ x.2.2.1.length) = cvB x from rfl] at c68 hlen
    generalize cvB x = B at *
    generalize snS x = L at *
    refine pi3 fn40u ?_
    (repeat' first | (refine Owe.same ?_; first | refine Owe.o ?_ | refine Owe.mk ?_ ?_) | (refine Fork.same ?_; (first | refine fkD ?_ ?_ | refine fkN ?_ ?_ | refine fkM ?_ ?_) <;> intro h) | ((first | refine OpsL.same ?_ | refine OpsDL.same ?_); first | refine pK c76 rfl rfl ?_ | refine pK c77 rfl rfl ?_ | refine pK C49 rfl rfl ?_) | refine MvQ.stay ?_)
    · exact absurd rfl h
    refine SatL.frB 1 [7] rfl rfl ?_
    refine SatL.frB 0 [1] rfl rfl ?_
    refine SatL.go ?_
    (repeat' first | (refine Owe.same ?_; first | refine Owe.o ?_ | refine Owe.mk ?_ ?_) | (refine Fork.same ?_; (first | refine fkD ?_ ?_ | refine fkN ?_ ?_ | refine fkM ?_ ?_) <;> intro h) | ((first | refine OpsL.same ?_ | refine OpsDL.same ?_); first | refine pK c68 rfl rfl ?_ | refine pK C49 rfl rfl ?_) | refine MvQ.stay ?_)
    (refine rqK rfl ?_; (repeat' first | exact rfl | (refine qS ?_; constructor)))
  · rw [if_neg h0, if_neg h0, if_neg h0]
    refine pi3 fn40u ?_
    (repeat' first | (refine Owe.same ?_; first | refine Owe.o ?_ | refine Owe.mk ?_ ?_) | (refine Fork.same ?_; (first | refine fkD ?_ ?_ | refine fkN ?_ ?_ | refine fkM ?_ ?_) <;> intro h) | ((first | refine OpsL.same ?_ | refine OpsDL.same ?_); first | refine pK (C76 hl) rfl rfl ?_) | refine MvQ.stay ?_)
    · (refine rqK rfl ?_; (repeat' first | exact rfl | (refine qS ?_; constructor)))
    · exact absurd h h0
end Go.Pw

set_option linter.unusedVariables false
namespace Go.Pw
open Go Go.RowKit
/-- A struct of four numbers: a pair and two numbers. -/
theorem arg_times {v : V} (h : Arg true [.int .i64, .int .i64, .int .i64, .int .i64] v) : ∃ (p : Pr) (a b : Int), v = .agg [int p.1, int p.2, int a, int b] ∧ (i64 p.1 ∧ i64 p.2) ∧ i64 a ∧ i64 b := by
  obtain ⟨ds, rfl, h1⟩ := arg_agg h
  obtain ⟨d1, e1, rfl, a1, k1⟩ := okDs_cons h1
  obtain ⟨d2, e2, rfl, a2, k2⟩ := okDs_cons k1
  obtain ⟨d3, e3, rfl, a3, k3⟩ := okDs_cons k2
  obtain ⟨d4, e4, rfl, a4, k4⟩ := okDs_cons k3
  obtain ⟨n1, rfl, b1⟩ := okD_int a1
  obtain ⟨n2, rfl, b2⟩ := okD_int a2
  obtain ⟨n3, rfl, b3⟩ := okD_int a3
  obtain ⟨n4, rfl, b4⟩ := okD_int a4
  rw [okDs_nil k4]
  exact ⟨(n1, n2), n3, n4, rfl, ⟨b1, b2⟩, b3, b4⟩
end Go.Pw

set_option linter.unusedSimpArgs false
namespace Go.Pw
set_option maxRecDepth 2000
open Go Go.Proofs A1 A2 A3 A4
abbrev exD : List Dv := [(1, 2, 3), (2, 1, 3), (4, 2, 2)]
abbrev exY : List Dv := [(10, 4, 5), (20, 5, 6)]
abbrev exT : List Pr := [(1, 0), (-1, 0)]
abbrev exU : List Pr := [(1, 0), (3, 0), (-3, 0), (0, 0)]
abbrev exS : Sc := (4, 2, [((0, 0), (3, 1), true), ((0, 1), (3, 1), false)])
abbrev exQ : Se := (4, 2, [(((0, 0), (3, 0), false), 5), (((0, 0), (3, 1), false), 4), (((0, 1), (3, 1), false), 3)], [3, 6])
theorem C37 : PFD Try.prog 37 [] (.c (trs exD)) := by
  refine pi1 fn37 ?_
  (repeat' first | (refine Owe.same ?_; first | refine Owe.o ?_ | refine Owe.mk ?_ ?_) | (refine Fork.same ?_; (first | refine fkD ?_ ?_ | refine fkN ?_ ?_ | refine fkM ?_ ?_) <;> intro h) | refine MvQ.stay ?_)
  (refine rqK rfl ?_; (repeat' first | exact rfl | (refine qS ?_; constructor)))
theorem C38 : PFD Try.prog 38 [] (.c (trs exY)) := by
  refine pi1 fn38 ?_
  (repeat' first | (refine Owe.same ?_; first | refine Owe.o ?_ | refine Owe.mk ?_ ?_) | (refine Fork.same ?_; (first | refine fkD ?_ ?_ | refine fkN ?_ ?_ | refine fkM ?_ ?_) <;> intro h) | refine MvQ.stay ?_)
  (refine rqK rfl ?_; (repeat' first | exact rfl | (refine qS ?_; constructor)))
theorem C75 {a b c d : Int} {h : Bool} : PFD Try.prog 75 [vi .i64 a, vi .i64 b, vi .i64 c, vi .i64 d, vbl h] (ryv ((a, b), (c, d), h)) := by
  refine pi1 fn75 ?_
  (repeat' first | (refine Owe.same ?_; first | refine Owe.o ?_ | refine Owe.mk ?_ ?_) | (refine Fork.same ?_; (first | refine fkD ?_ ?_ | refine fkN ?_ ?_ | refine fkM ?_ ?_) <;> intro h) | refine MvQ.stay ?_)
  (refine rqK rfl ?_; (repeat' first | exact rfl | (refine qS ?_; constructor)))
theorem C39 : PFD Try.prog 39 [] (scv exS) := by
  refine pi1 fn39 ?_
  (repeat' first | (refine Owe.same ?_; first | refine Owe.o ?_ | refine Owe.mk ?_ ?_) | (refine Fork.same ?_; (first | refine fkD ?_ ?_ | refine fkN ?_ ?_ | refine fkM ?_ ?_) <;> intro h) | ((first | refine OpsL.same ?_ | refine OpsDL.same ?_); first | refine pK C75 rfl rfl ?_) | refine MvQ.stay ?_)
  (refine rqK rfl ?_; (repeat' first | exact rfl | (refine qS ?_; constructor)))
theorem C41 : PFD Try.prog 41 [] (sev exQ) := by
  refine pi1 fn41 ?_
  (repeat' first | (refine Owe.same ?_; first | refine Owe.o ?_ | refine Owe.mk ?_ ?_) | (refine Fork.same ?_; (first | refine fkD ?_ ?_ | refine fkN ?_ ?_ | refine fkM ?_ ?_) <;> intro h) | ((first | refine OpsL.same ?_ | refine OpsDL.same ?_); first | refine pK C75 rfl rfl ?_) | refine MvQ.stay ?_)
  (refine rqK rfl ?_; (repeat' first | exact rfl | (refine qS ?_; constructor)))
theorem C42 {a b : Tn} : (a.2.length ≤ 1000000) → PFD Try.prog 42 [tv a, tv b] (vbl (decide (a = b))) := fun h => by
  obtain ⟨a1, a2⟩ := a
  obtain ⟨b1, b2⟩ := b
  refine pi1 fn42 ?_
  (repeat' first | (refine Owe.same ?_; first | refine Owe.o ?_ | refine Owe.mk ?_ ?_) | (refine Fork.same ?_; (first | refine fkD ?_ ?_ | refine fkN ?_ ?_ | refine fkM ?_ ?_) <;> intro h) | ((first | refine OpsL.same ?_ | refine OpsDL.same ?_); first | refine pK C19 rfl rfl ?_) | refine MvQ.stay ?_)
  · have h : a1 = b1 := h
    subst h
    (refine rqK rfl ?_; (repeat' first | exact rfl | (refine qS ?_; constructor)))
    simp
  · have h : ¬ a1 = b1 := h
    (refine rqK rfl ?_; (repeat' first | exact rfl | (refine qS ?_; constructor)))
    simp [h]
theorem C8 : PFD Try.prog 8 [] (vbl true) := by
  have c1 := C36 (l := exD) (by decide)
  have c2 := C15 (T := exT) (S := exU) (lim := 9) (by decide)
  have c3 := C27 (l := exY) (T := 4) (by decide)
  have c4 := C35 (s := exS) (by decide)
  have c5 := C30 (s := exS) (by decide)
  have c6 := C40 (x := exQ) (by decide)
  rw [show shR exD = ((9, [0, 5, 0]), 0) by decide +kernel] at c1
  rw [show ecE exT exU 9 = 0 by decide +kernel, if_pos rfl, show ecL exT exU 9 = [1] by decide +kernel] at c2
  rw [show dpS exY 4 = ((17, 22), 0) by decide +kernel] at c3
  rw [show (scE exS).2 = 0 by decide +kernel, if_pos rfl, show stS exS [] = [1, 1, 0, 0, 1, 1, 1, 3] by decide +kernel] at c4
  rw [show (scE exS).2 = 0 by decide +kernel, if_pos rfl, show (bestK (odC exS) exS.2.2.length (2 ^ exS.2.2.length)).l = [0] by decide +kernel] at c5
  rw [show (seE exQ).2 = 0 by decide +kernel, if_pos rfl, if_pos rfl, if_pos rfl, show (cvB exQ).l = [0, 2] by decide +kernel, show (cvB exQ).p = 8 by decide +kernel, show (cvB exQ).ok = true by decide +kernel] at c6
  have c7 := C42 (a := (9, [0, 5, 0])) (b := (9, [0, 5, 0])) (by decide)
  have c8 := C19 (l := [1]) (m := [1]) (by decide)
  have c9 := C19 (l := [1, 1, 0, 0, 1, 1, 1, 3]) (m := [1, 1, 0, 0, 1, 1, 1, 3]) (by decide)
  have c10 := C19 (l := [0]) (m := [0]) (by decide)
  have c11 := C19 (l := [0, 2]) (m := [0, 2]) (by decide)
  rw [decide_eq_true rfl] at c7 c8 c9 c10 c11
  refine pi1 fn8 ?_
  (repeat' first | (refine Owe.same ?_; first | refine Owe.o ?_ | refine Owe.mk ?_ ?_) | (refine Fork.same ?_; (first | refine fkY ?_ | refine fkF ?_ | ((first | refine fkD ?_ ?_ | refine fkN ?_ ?_ | refine fkM ?_ ?_) <;> intro h))) | ((first | refine OpsL.same ?_ | refine OpsDL.same ?_); first | refine pK C37 rfl rfl ?_ | refine pK C38 rfl rfl ?_ | refine pK C39 rfl rfl ?_ | refine pK C41 rfl rfl ?_ | refine pK c1 rfl rfl ?_ | refine pK c2 rfl rfl ?_ | refine pK c3 rfl rfl ?_ | refine pK c4 rfl rfl ?_ | refine pK c5 rfl rfl ?_ | refine pK c6 rfl rfl ?_ | refine pK c7 rfl rfl ?_) | refine MvQ.stay ?_)
  ((first | refine OpsL.same ?_ | refine OpsDL.same ?_); first | refine pK c8 rfl rfl ?_)
  (repeat' first | (refine Owe.same ?_; first | refine Owe.o ?_ | refine Owe.mk ?_ ?_) | (refine Fork.same ?_; (first | refine fkY ?_ | refine fkF ?_ | ((first | refine fkD ?_ ?_ | refine fkN ?_ ?_ | refine fkM ?_ ?_) <;> intro h))) | ((first | refine OpsL.same ?_ | refine OpsDL.same ?_); first | refine pK c7 rfl rfl ?_) | refine MvQ.stay ?_)
  ((first | refine OpsL.same ?_ | refine OpsDL.same ?_); first | refine pK c9 rfl rfl ?_)
  (repeat' first | (refine Owe.same ?_; first | refine Owe.o ?_ | refine Owe.mk ?_ ?_) | (refine Fork.same ?_; (first | refine fkY ?_ | refine fkF ?_ | ((first | refine fkD ?_ ?_ | refine fkN ?_ ?_ | refine fkM ?_ ?_) <;> intro h))) | ((first | refine OpsL.same ?_ | refine OpsDL.same ?_); first | refine pK c7 rfl rfl ?_) | refine MvQ.stay ?_)
  ((first | refine OpsL.same ?_ | refine OpsDL.same ?_); first | refine pK c10 rfl rfl ?_)
  (repeat' first | (refine Owe.same ?_; first | refine Owe.o ?_ | refine Owe.mk ?_ ?_) | (refine Fork.same ?_; (first | refine fkY ?_ | refine fkF ?_ | ((first | refine fkD ?_ ?_ | refine fkN ?_ ?_ | refine fkM ?_ ?_) <;> intro h))) | ((first | refine OpsL.same ?_ | refine OpsDL.same ?_); first | refine pK c7 rfl rfl ?_) | refine MvQ.stay ?_)
  ((first | refine OpsL.same ?_ | refine OpsDL.same ?_); first | refine pK c11 rfl rfl ?_)
  (repeat' first | (refine Owe.same ?_; first | refine Owe.o ?_ | refine Owe.mk ?_ ?_) | (refine Fork.same ?_; (first | refine fkY ?_ | refine fkF ?_ | ((first | refine fkD ?_ ?_ | refine fkN ?_ ?_ | refine fkM ?_ ?_) <;> intro h))) | ((first | refine OpsL.same ?_ | refine OpsDL.same ?_); first | refine pK c7 rfl rfl ?_) | refine MvQ.stay ?_)
  (refine rqK rfl ?_; (repeat' first | exact rfl | (refine qS ?_; constructor)))
end Go.Pw

set_option linter.unusedSimpArgs false
namespace Go.Pw
set_option maxRecDepth 2000
open Go Go.Proofs A1 A2 A3 A4
theorem smE_2 {m : Int} {l : List Pr} (h : 0 < l.length ∧ (l.length : Int) ≤ m) {i : Nat} (hi : i < l.length) (hx : ¬ pB 1000 (l.getD i (0, 0))) : smE m l = 2 := by
  have h1 : cntE l.length m = 0 := by rw [cntE, fst2, unl0 (by decide), unl0 (by decide)]; omega
  have h2 : (l.any fun z => decide (¬ pB 1000 z)) = true := List.any_eq_true.2 ⟨_, getD_mem (0, 0) hi, decide_eq_true hx⟩
  rw [smE, h1, h2]; rfl
theorem C55 {l : List Pr} {m : Int} : m ≤ 1000000 → PFD Try.prog 55 [.c (prs l), vi .i64 m] (vi .i64 (smE m l)) := fun hl => by
  by_cases h0 : l.length = 0
  · have e : smE m l = 10 := by
      have : l = [] := List.length_eq_zero_iff.1 h0
      subst this; rfl
    rw [e]
    refine pi1 fn55 ?_
    (repeat' first | (refine Owe.same ?_; first | refine Owe.o ?_ | refine Owe.mk ?_ ?_) | (refine Fork.same ?_; (first | refine fkY ?_ | refine fkF ?_ | ((first | refine fkD ?_ ?_ | refine fkN ?_ ?_ | refine fkM ?_ ?_) <;> intro h))) | ((first | refine OpsL.same ?_ | refine OpsDL.same ?_); first | refine pK C17 rfl rfl ?_) | refine MvQ.stay ?_)
    (refine rqK rfl ?_; (repeat' first | exact rfl | (refine qS ?_; constructor)))
  · by_cases h1 : (l.length : Int) ≤ m
    · have hb : 0 < l.length ∧ (l.length : Int) ≤ m := ⟨by omega, h1⟩
      obtain ⟨q, hq⟩ : ∃ q, q = smE m l := ⟨_, rfl⟩
      rw [← hq]
      refine pi1 fn55 ?_
      (repeat' first | (refine Owe.same ?_; first | refine Owe.o ?_ | refine Owe.mk ?_ ?_) | (refine Fork.same ?_; (first | refine fkY ?_ | refine fkF ?_ | ((first | refine fkD ?_ ?_ | refine fkN ?_ ?_ | refine fkM ?_ ?_) <;> intro h))) | ((first | refine OpsL.same ?_ | refine OpsDL.same ?_); first | refine pK C17 rfl rfl ?_) | refine MvQ.stay ?_)
      refine Sat.lp0 (fun k : Nat => [(5, vi .i64 k), (0, .c (prs l))]) (fun k => k ≤ l.length ∧ ∀ i, i < k → pB 1000 (l.getD i (0, 0))) (fun k => l.length - k) 0 ⟨Nat.zero_le _, fun i hi => by omega⟩ (by ((first | refine qen ?_ | refine qvs ?_ | refine qeq ?_ | refine qst ?_ | refine qv ?_ | refine qc ?_ | refine qe ?_ | refine qcs ?_ | skip); (repeat' first | exact rfl | (refine qS ?_; constructor)))) ?_
      intro k hk
      refine Fork.dec (fun hlt => ?_) (fun hlt => ?_)
      · have hlt : k < l.length := by omega
        (repeat' first | (refine Owe.same ?_; first | refine Owe.o ?_ | refine Owe.mk ?_ ?_) | (refine Fork.same ?_; (first | refine fkD ?_ ?_ | refine fkN ?_ ?_ | refine fkM ?_ ?_) <;> intro h) | ((first | refine OpsL.same ?_ | refine OpsDL.same ?_); first | refine pK C17 rfl rfl ?_) | refine MvQ.stay ?_)
        · have h : ¬ (-1000 ≤ (l.getD k (0, 0)).1 ∧ (l.getD k (0, 0)).1 ≤ 1000) := h
          have : q = 2 := hq.trans (smE_2 hb hlt fun hh => h hh.1)
          subst this
          (refine rqK rfl ?_; (repeat' first | exact rfl | (refine qS ?_; constructor)))
        · have h : ¬ (-1000 ≤ (l.getD k (0, 0)).2 ∧ (l.getD k (0, 0)).2 ≤ 1000) := h
          have : q = 2 := hq.trans (smE_2 hb hlt fun hh => h hh.2)
          subst this
          (refine rqK rfl ?_; (repeat' first | exact rfl | (refine qS ?_; constructor)))
        · rename_i h9
          have h9 : -1000 ≤ (l.getD k (0, 0)).1 ∧ (l.getD k (0, 0)).1 ≤ 1000 := h9
          have h : -1000 ≤ (l.getD k (0, 0)).2 ∧ (l.getD k (0, 0)).2 ≤ 1000 := h
          refine again0 (k + 1) ⟨hlt, fun i hi => ?_⟩ (by omega) (by ((first | refine qen ?_ | refine qvs ?_ | refine qeq ?_ | refine qst ?_ | refine qv ?_ | refine qc ?_ | refine qe ?_ | refine qcs ?_ | skip); (repeat' first | exact rfl | (refine qS ?_; constructor))))
          rcases Nat.lt_succ_iff_lt_or_eq.1 hi with h3 | rfl
          · exact hk.2 i h3
          · exact ⟨h9, h⟩
      · have : q = 0 := hq.trans (smE_ok.2 ⟨hb, fun i hi => hk.2 i (by omega)⟩)
        subst this
        (repeat' first | (refine Owe.same ?_; first | refine Owe.o ?_ | refine Owe.mk ?_ ?_) | (refine Fork.same ?_; (first | refine fkY ?_ | refine fkF ?_ | ((first | refine fkD ?_ ?_ | refine fkN ?_ ?_ | refine fkM ?_ ?_) <;> intro h))) | ((first | refine OpsL.same ?_ | refine OpsDL.same ?_); first | refine pK C17 rfl rfl ?_) | refine MvQ.stay ?_)
        (refine rqK rfl ?_; (repeat' first | exact rfl | (refine qS ?_; constructor)))
    · have e : smE m l = 8 := by
        have h2 : cntE l.length m = 8 := by
          rw [cntE, fstE, if_pos ((unl0 (by decide)).2 (by omega)), fstE, unl, decide_eq_false h1]; rfl
        rw [smE, h2]; rfl
      rw [e]
      refine pi1 fn55 ?_
      (repeat' first | (refine Owe.same ?_; first | refine Owe.o ?_ | refine Owe.mk ?_ ?_) | (refine Fork.same ?_; (first | refine fkY ?_ | refine fkF ?_ | ((first | refine fkD ?_ ?_ | refine fkN ?_ ?_ | refine fkM ?_ ?_) <;> intro h))) | ((first | refine OpsL.same ?_ | refine OpsDL.same ?_); first | refine pK C17 rfl rfl ?_) | refine MvQ.stay ?_)
      (refine rqK rfl ?_; (repeat' first | exact rfl | (refine qS ?_; constructor)))
theorem C16 {T S : List Pr} : PFD Try.prog 16 [.c (prs T), .c (prs S)] (vi .i64 (osE T S)) := by
  have e : osE T S = if smE 8 T = 0 then smE 40 S else smE 8 T := by
    rw [osE, fstE]; split
    · rw [fstE]; split
      · rename_i h; rw [h]; rfl
      · rfl
    · rfl
  rw [e]
  have c1 := C55 (l := T) (m := 8) (by decide)
  have c2 := C55 (l := S) (m := 40) (by decide)
  generalize smE 8 T = a at *
  generalize smE 40 S = b at *
  refine pi1 fn16 ?_
  (repeat' first | (refine Owe.same ?_; first | refine Owe.o ?_ | refine Owe.mk ?_ ?_) | (refine Fork.same ?_; (first | refine fkY ?_ | refine fkF ?_ | ((first | refine fkD ?_ ?_ | refine fkN ?_ ?_ | refine fkM ?_ ?_) <;> intro h))) | ((first | refine OpsL.same ?_ | refine OpsDL.same ?_); first | refine oK c1 rfl rfl rfl ?_ | refine oK c2 rfl rfl rfl ?_) | refine MvQ.stay ?_)
  · (refine rqK rfl ?_; (repeat' first | exact rfl | (refine qS ?_; constructor))); rw [if_neg h]
  · (refine rqK rfl ?_; (repeat' first | exact rfl | (refine qS ?_; constructor))); rw [if_pos h]
theorem osE_cases {T S : List Pr} (h : osE T S = 0) : (0 < T.length ∧ T.length ≤ 8) ∧ 0 < S.length ∧ S.length ≤ 40 := by
  obtain ⟨h1, h2⟩ := fst2.1 (show fstE [smE 8 T, smE 40 S] = 0 from h)
  have h1 := (smE_ok.1 h1).1
  have h2 := (smE_ok.1 h2).1
  omega
theorem fst_z {l : List Int} : fstE (0 :: l) = fstE l := by rw [fstE, if_pos rfl]
end Go.Pw

set_option linter.unusedSimpArgs false
namespace Go.Pw
set_option maxRecDepth 2000
open Go Go.Proofs A1 A2 A3 A4
theorem g_s (m t s b : Pr) : gAdd (gMul m b) (gMul (gConj t) (gMul s b)) = gMul (gAdd m (gMul (gConj t) s)) b := by
  refine Prod.ext ?_ ?_ <;> simp only <;> grind
theorem g_t (m t s b : Pr) : gAdd (gMul m (gConj b)) (gMul (gConj (gMul t b)) s) = gMul (gAdd m (gMul (gConj t) s)) (gConj b) := by
  refine Prod.ext ?_ ?_ <;> simp only <;> grind
theorem g_0 (b : Pr) : gMul (0, 0) b = (0, 0) := by
  refine Prod.ext ?_ ?_ <;> simp only <;> grind
/-- A list times a number. -/
abbrev tmL (l : List Pr) (b : Pr) (k : Nat) : List Pr := accL (fun i => gMul (l.getD i (0, 0)) b) k
theorem mt_s {T S : List Pr} {b : Pr} {sh : Nat} : ∀ k, sh + k ≤ S.length → mt T (tmL S b S.length) sh k = gMul (mt T S sh k) b
  | 0, _ => (g_0 b).symm
  | k + 1, h => by
    rw [mt, mt, mt_s k (by omega), accL_get _ (by omega), g_s]
theorem mt_t {T S : List Pr} {b : Pr} {sh : Nat} : ∀ k, k ≤ T.length → mt (tmL T b T.length) S sh k = gMul (mt T S sh k) (gConj b)
  | 0, _ => (g_0 _).symm
  | k + 1, h => by
    rw [mt, mt, mt_t k (by omega), accL_get _ (by omega), g_t]
/-- More samples. -/
abbrev moL (S : List Pr) (k : Nat) : List Pr := (3, 0) :: accL (fun i => S.getD i (0, 0)) k
abbrev moA (S : List Pr) : List Pr := moL S S.length ++ [(0, 2)]
theorem moA_get {S : List Pr} {i : Nat} (h : i < S.length) : (moA S).getD (i + 1) (0, 0) = S.getD i (0, 0) := by
  rw [moA, moL, List.cons_append, List.getD_cons_succ, List.getD_eq_getElem?_getD, List.getElem?_append_left (by rw [accL_len]; exact h), ← List.getD_eq_getElem?_getD, accL_get _ h]
theorem mt_m {T S : List Pr} {sh : Nat} : ∀ k, sh + k ≤ S.length → mt T (moA S) (sh + 1) k = mt T S sh k
  | 0, _ => rfl
  | k + 1, h => by
    rw [mt, mt, mt_m k (by omega), show sh + 1 + k = sh + k + 1 by omega, moA_get (by omega)]
/-- Samples of at most 20 in size. -/
structure Sm20 (T S : List Pr) : Prop where
  n : 0 < T.length ∧ T.length ≤ 8 ∧ T.length ≤ S.length ∧ S.length ≤ 38
  t : ∀ i, i < T.length → pB 20 (T.getD i (0, 0))
  s : ∀ i, i < S.length → pB 20 (S.getD i (0, 0))
theorem osE_of {T S : List Pr} (hT : 0 < T.length ∧ T.length ≤ 8) (hS : 0 < S.length ∧ S.length ≤ 40) (ht : ∀ i, i < T.length → pB 1000 (T.getD i (0, 0))) (hs : ∀ i, i < S.length → pB 1000 (S.getD i (0, 0))) : osE T S = 0 :=
  fst2.2 ⟨smE_ok.2 ⟨by omega, ht⟩, smE_ok.2 ⟨by omega, hs⟩⟩
theorem Sm20.mt {T S : List Pr} {sh : Nat} (h : Sm20 T S) (hs : sh + T.length ≤ S.length) : ∀ k, k ≤ T.length → pB (k * 800) (mt T S sh k)
  | 0, _ => by refine ⟨⟨?_, ?_⟩, ?_, ?_⟩ <;> simp [Pw.mt]
  | k + 1, hk => by
    have ih := Sm20.mt h hs k (by omega)
    have h1 := h.t k (by omega)
    have h2 := h.s (sh + k) (by omega)
    have h3 := gMul_bd (a := gConj (T.getD k (0, 0))) (A := 20) (B := 20) (by refine ⟨h1.1, ?_, ?_⟩ <;> simp only [gConj] <;> omega) h2
    simp only [gMul, gConj] at h3
    simp only [Pw.mt]
    refine ⟨⟨?_, ?_⟩, ?_, ?_⟩ <;> simp only [gAdd, gMul, gConj] <;> omega
theorem fltL_mono {p q : Nat → Bool} (h : ∀ i, p i = true → q i = true) : ∀ n, (fltL p n).length ≤ (fltL q n).length ∧ ∀ x ∈ fltL p n, x ∈ fltL q n
  | 0 => ⟨Nat.le_refl _, fun x hx => hx⟩
  | n + 1 => by
    have ih := fltL_mono h n
    rw [fltL_succ, fltL_succ]
    by_cases hp : p n = true
    · rw [if_pos hp, if_pos (h n hp)]
      refine ⟨by simp; exact ih.1, fun x hx => ?_⟩
      rcases List.mem_append.1 hx with hx | hx
      · exact List.mem_append_left _ (ih.2 x hx)
      · exact List.mem_append_right _ hx
    · rw [if_neg hp]
      split
      · exact ⟨by simp; omega, fun x hx => List.mem_append_left _ (ih.2 x hx)⟩
      · exact ih
theorem ecL_mono {T S : List Pr} {a b : Int} (h : b ≤ a) : (ecL T S a).length ≤ (ecL T S b).length ∧ ∀ x ∈ ecL T S a, x ∈ ecL T S b :=
  fltL_mono (fun i hi => by rw [isEB_iff] at hi ⊢; exact ⟨by omega, hi.2⟩) _
theorem C13z {T S : List Pr} {s : Nat} (h : osE T S = 0) (hs : s + T.length ≤ S.length) : PFD Try.prog 13 [.c (prs T), .c (prs S), vi .i64 s] (.tup [pr (mt T S s T.length), vi .i64 0]) := by
  have h1 := osE_cases h
  have c := C13 (T := T) (S := S) (sh := s) ⟨by omega, by omega⟩
  have e : maE T S s = 0 := by rw [maE, h, fst_z, fstE, if_pos ((unl0 (by decide)).2 (by omega))]; rfl
  rw [e, if_pos rfl, Int.toNat_natCast] at c
  exact c
theorem C15z {T S : List Pr} {lim : Int} (h : osE T S = 0) (hs : T.length ≤ S.length) (hl : 1 ≤ lim ∧ lim ≤ 1000000000000000) : PFD Try.prog 15 [.c (prs T), .c (prs S), vi .i64 lim] (.tup [.c (ints (ecL T S lim)), vi .i64 0]) := by
  have h1 := osE_cases h
  have c := C15 (T := T) (S := S) (lim := lim) ⟨by omega, by omega⟩
  have e : ecE T S lim = 0 := by rw [ecE, h, fst_z, fst2, unl0 (by decide), unl0 (by decide)]; omega
  rw [e, if_pos rfl] at c
  exact c
set_option maxHeartbeats 4000000 in
theorem C5 {T S : List Pr} {b : Pr} {sh lim : Int} (hw : w64 sh) : PFD Try.prog 5 [.c (prs T), .c (prs S), .agg [int b.1, int b.2, int sh, int lim]] (vbl true) := by
  have c16 := C16 (T := T) (S := S)
  by_cases hP : (S.length ≤ 38 ∧ osE T S = 0) ∧ (T.length ≤ S.length ∧ pB 20 b) ∧ 1 ≤ lim ∧ lim ≤ 1000000
  · obtain ⟨⟨hS, h0⟩, ⟨hTS, hb⟩, hlim⟩ := hP
    obtain ⟨⟨hT0, hT8⟩, hS0, hS40⟩ := osE_cases h0
    rw [h0] at c16
    have c1 := C17 (n := b.1) (lo := -20) (hi := 20)
    have c2 := C17 (n := b.2) (lo := -20) (hi := 20)
    have c3 := C17 (n := lim) (lo := 1) (hi := 1000000)
    rw [decide_eq_true hb.1] at c1
    rw [decide_eq_true hb.2] at c2
    rw [decide_eq_true hlim] at c3
    refine pi1 fn5 ?_
    (repeat' first | (refine Owe.same ?_; first | refine Owe.o ?_ | refine Owe.mk ?_ ?_) | (refine Fork.same ?_; (first | refine fkY ?_ | refine fkF ?_ | ((first | refine fkD ?_ ?_ | refine fkN ?_ ?_ | refine fkM ?_ ?_) <;> intro h))) | ((first | refine OpsL.same ?_ | refine OpsDL.same ?_); first | refine oK C8 rfl rfl rfl ?_ | refine oK c16 rfl rfl rfl ?_ | refine oK c1 rfl rfl rfl ?_ | refine oK c2 rfl rfl rfl ?_ | refine oK c3 rfl rfl rfl ?_) | refine MvQ.stay ?_)
    refine Sat.nilS 8 39 2 (fun i => r2 (([] : List Pr).getD i (0, 0))) rfl ?_
    refine Sat.lp (fun k : Nat => ⟨[(10, vi .i64 k), (0, .c (prs T)), (1, .c (prs S)), (5, .c (.rp [dI b.1, dI b.2, dI sh, dI lim])), (7, .c (.d (.v (.slice none 0 0)))), (8, .c (.ms 0 (tmL S b k).length)), (9, .c (.ms 1 (moL S k).length))], [(0, rowv 39 2 r2 (0, 0) (tmL S b k)), (1, rowv 39 2 r2 (0, 0) (moL S k))], 2⟩)
      (fun k => k ≤ S.length ∧ ∀ i, i < k → pB 20 (S.getD i (0, 0))) (fun k => S.length - k) 0 [1, 0] ⟨Nat.zero_le _, fun i hi => absurd hi (by omega)⟩ ?_ ?_
    · (refine qis ?_ ?_ <;> (repeat' first | exact rfl | (refine qS ?_; constructor)))
    · intro k hk
      refine Fork.dec (fun hlt => ?_) (fun hlt => ?_)
      · have hlt : k < S.length := by omega
        have l1 : (tmL S b k).length = k := accL_len _ _
        have l3 : (accL (fun i => S.getD i (0, 0)) k).length = k := accL_len _ _
        have l2 : (moL S k).length = k + 1 := by rw [moL, List.length_cons, l3]
        have e1 : tmL S b (k + 1) = tmL S b k ++ [gMul (S.getD k (0, 0)) b] := accL_succ _ _
        have e2 : moL S (k + 1) = moL S k ++ [S.getD k (0, 0)] := by rw [moL, accL_succ]; rfl
        by_cases hx : pB 20 (S.getD k (0, 0))
        · have d1 := C17 (n := (S.getD k (0, 0)).1) (lo := -20) (hi := 20)
          have d2 := C17 (n := (S.getD k (0, 0)).2) (lo := -20) (hi := 20)
          rw [decide_eq_true hx.1] at d1
          rw [decide_eq_true hx.2] at d2
          have c21 := C21 (a := S.getD k (0, 0)) (b := b) ⟨by omega, by omega⟩
          (repeat' first | (refine Owe.same ?_; first | refine Owe.o ?_ | refine Owe.mk ?_ ?_) | (refine Fork.same ?_; (first | refine fkY ?_ | refine fkF ?_ | ((first | refine fkD ?_ ?_ | refine fkN ?_ ?_ | refine fkM ?_ ?_) <;> intro h))) | ((first | refine OpsL.same ?_ | refine OpsDL.same ?_); first | refine oK d1 rfl rfl rfl ?_ | refine oK d2 rfl rfl rfl ?_ | refine oK c21 rfl rfl rfl ?_) | refine MvQ.stay ?_)
          refine again (k + 1) [10, 17] ⟨hlt, fun i hi => ?_⟩ (by omega) ?_
          · rcases Nat.lt_succ_iff_lt_or_eq.1 hi with h3 | rfl
            · exact hk.2 i h3
            · exact hx
          · (refine qis ?_ ?_ <;> (repeat' first | exact rfl | (refine qS ?_; constructor)))
            · rw [l1]; exact (accL_len _ _).symm
            · show (moL S k).length + 1 = (moL S (k + 1)).length
              rw [l2, moL, List.length_cons, accL_len]
            · exact e1
            · exact e2
        · (repeat' first | (refine Owe.same ?_; first | refine Owe.o ?_ | refine Owe.mk ?_ ?_) | (refine Fork.same ?_; (first | refine fkY ?_ | refine fkF ?_ | ((first | refine fkD ?_ ?_ | refine fkN ?_ ?_ | refine fkM ?_ ?_) <;> intro h))) | ((first | refine OpsL.same ?_ | refine OpsDL.same ?_); first | refine pK C17 rfl rfl ?_) | refine MvQ.stay ?_)
          · (refine rqK rfl ?_; (repeat' first | exact rfl | (refine qS ?_; constructor)))
          · (refine rqK rfl ?_; (repeat' first | exact rfl | (refine qS ?_; constructor)))
          · exfalso
            rename_i h1
            exact hx ⟨h1, h⟩
      · have : k = S.length := by omega
        subst this
        have hs := hk.2
        (repeat' first | (refine Owe.same ?_; first | refine Owe.o ?_ | refine Owe.mk ?_ ?_) | (refine Fork.same ?_; (first | refine fkD ?_ ?_ | refine fkN ?_ ?_ | refine fkM ?_ ?_) <;> intro h))
        refine MvQ.frz 8 _ rfl rfl (Nat.le_refl _) ?_
        have lY : (tmL S b S.length).length = S.length := accL_len _ _
        have lM : (moL S S.length).length = S.length + 1 := by rw [moL, List.length_cons, accL_len]
        have hmo : ∀ i, i < S.length → (moA S).getD (i + 1) (0, 0) = S.getD i (0, 0) := fun i hi => moA_get hi
        have hmA : moA S = moL S S.length ++ [(0, 2)] := rfl
        have hmm : ∀ sh : Nat, sh + T.length ≤ S.length → mt T (moA S) (sh + 1) T.length = mt T S sh T.length := fun sh h => mt_m _ h
        have hms : ∀ sh : Nat, sh + T.length ≤ S.length → mt T (tmL S b S.length) sh T.length = gMul (mt T S sh T.length) b := fun sh h => mt_s _ h
        have hmt : ∀ sh : Nat, mt (tmL T b T.length) S sh T.length = gMul (mt T S sh T.length) (gConj b) := fun sh => mt_t _ (Nat.le_refl _)
        have hYs : ∀ i, i < S.length → pB 1000 ((tmL S b S.length).getD i (0, 0)) := fun i hi => by
          rw [accL_get _ hi]
          have := gMul_bd (hs i hi) hb
          omega
        have hAs : ∀ i, i < S.length + 2 → pB 1000 ((moA S).getD i (0, 0)) := fun i hi => by
          rcases i with _ | i
          · have e : (moA S).getD 0 (0, 0) = (3, 0) := rfl
            rw [e]; decide
          · rcases Nat.lt_or_ge i S.length with h9 | h9
            · rw [hmo i h9]; have := hs i h9; omega
            · have : i = S.length := by omega
              subst this
              rw [hmA, List.getD_eq_getElem?_getD, List.getElem?_append_right (by omega), lM, Nat.sub_self]
              exact ⟨by decide, by decide⟩
        have lA : (moA S).length = S.length + 2 := by rw [hmA, List.length_append, lM]; rfl
        generalize tmL S b S.length = Y at *
        generalize hA : moA S = A at *
        generalize moL S S.length = M at *
        (repeat' first | (refine Owe.same ?_; first | refine Owe.o ?_ | refine Owe.mk ?_ ?_) | (refine Fork.same ?_; (first | refine fkD ?_ ?_ | refine fkN ?_ ?_ | refine fkM ?_ ?_) <;> intro h) | refine MvQ.stay ?_)
        refine Sat.nilS 7 39 2 (fun i => r2 (([] : List Pr).getD i (0, 0))) rfl ?_
        refine Sat.lp (fun k : Nat => ⟨[(11, vi .i64 k), (0, .c (prs T)), (1, .c (prs S)), (5, .c (.rp [dI b.1, dI b.2, dI sh, dI lim])), (7, .c (.ms 0 (tmL T b k).length)), (8, .c (prs Y)), (9, .c (.ms 1 M.length))], [(0, rowv 39 2 r2 (0, 0) (tmL T b k)), (1, rowv 39 2 r2 (0, 0) M)], 2⟩)
          (fun k => k ≤ T.length ∧ ∀ i, i < k → pB 20 (T.getD i (0, 0))) (fun k => T.length - k) 0 [2, 1] ⟨Nat.zero_le _, fun i hi => absurd hi (by omega)⟩ ?_ ?_
        · (refine qis ?_ ?_ <;> (repeat' first | exact rfl | (refine qS ?_; constructor)))
        · intro k hk
          refine Fork.dec (fun hlt => ?_) (fun hlt => ?_)
          · have hlt : k < T.length := by omega
            have l1 : (tmL T b k).length = k := accL_len _ _
            have e1 : tmL T b (k + 1) = tmL T b k ++ [gMul (T.getD k (0, 0)) b] := accL_succ _ _
            by_cases hx : pB 20 (T.getD k (0, 0))
            · have d1 := C17 (n := (T.getD k (0, 0)).1) (lo := -20) (hi := 20)
              have d2 := C17 (n := (T.getD k (0, 0)).2) (lo := -20) (hi := 20)
              rw [decide_eq_true hx.1] at d1
              rw [decide_eq_true hx.2] at d2
              have c21 := C21 (a := T.getD k (0, 0)) (b := b) ⟨by omega, by omega⟩
              (repeat' first | (refine Owe.same ?_; first | refine Owe.o ?_ | refine Owe.mk ?_ ?_) | (refine Fork.same ?_; (first | refine fkY ?_ | refine fkF ?_ | ((first | refine fkD ?_ ?_ | refine fkN ?_ ?_ | refine fkM ?_ ?_) <;> intro h))) | ((first | refine OpsL.same ?_ | refine OpsDL.same ?_); first | refine oK d1 rfl rfl rfl ?_ | refine oK d2 rfl rfl rfl ?_ | refine oK c21 rfl rfl rfl ?_) | refine MvQ.stay ?_)
              refine again (k + 1) [10, 1] ⟨hlt, fun i hi => ?_⟩ (by omega) ?_
              · rcases Nat.lt_succ_iff_lt_or_eq.1 hi with h3 | rfl
                · exact hk.2 i h3
                · exact hx
              · (refine qis ?_ ?_ <;> (repeat' first | exact rfl | (refine qS ?_; constructor)))
                · rw [l1]; exact (accL_len _ _).symm
                · exact e1
            · (repeat' first | (refine Owe.same ?_; first | refine Owe.o ?_ | refine Owe.mk ?_ ?_) | (refine Fork.same ?_; (first | refine fkY ?_ | refine fkF ?_ | ((first | refine fkD ?_ ?_ | refine fkN ?_ ?_ | refine fkM ?_ ?_) <;> intro h))) | ((first | refine OpsL.same ?_ | refine OpsDL.same ?_); first | refine pK C17 rfl rfl ?_) | refine MvQ.stay ?_)
              · (refine rqK rfl ?_; (repeat' first | exact rfl | (refine qS ?_; constructor)))
              · (refine rqK rfl ?_; (repeat' first | exact rfl | (refine qS ?_; constructor)))
              · exfalso
                rename_i h1
                exact hx ⟨h1, h⟩
          · have : k = T.length := by omega
            subst this
            have ht := hk.2
            (repeat' first | (refine Owe.same ?_; first | refine Owe.o ?_ | refine Owe.mk ?_ ?_) | (refine Fork.same ?_; (first | refine fkD ?_ ?_ | refine fkN ?_ ?_ | refine fkM ?_ ?_) <;> intro h))
            refine MvQ.frz 7 _ rfl rfl (Nat.le_refl _) ?_
            have lT : (tmL T b T.length).length = T.length := accL_len _ _
            have hTs : ∀ i, i < T.length → pB 1000 ((tmL T b T.length).getD i (0, 0)) := fun i hi => by
              rw [accL_get _ hi]
              have := gMul_bd (ht i hi) hb
              omega
            generalize tmL T b T.length = X at *
            obtain ⟨s, hsq⟩ : ∃ s : Nat, sh % ((S.length : Int) - T.length + 1) = s := ⟨(sh % ((S.length : Int) - T.length + 1)).toNat, by
              have := Int.emod_nonneg sh (show (S.length : Int) - T.length + 1 ≠ 0 by omega); omega⟩
            have hsl : s + T.length ≤ S.length := by
              have := Int.emod_lt_of_pos sh (show 0 < (S.length : Int) - T.length + 1 by omega); omega
            have c22 := C22 (n := sh) (b := (S.length : Int) - T.length + 1) ⟨hw, by omega, by simp only [Md]; omega⟩
            rw [hsq] at c22
            have hz := Sm20.mt (T := T) (S := S) (sh := s) ⟨⟨hT0, hT8, hTS, hS⟩, ht, hs⟩ hsl T.length (Nat.le_refl _)
            have hz : pB 6400 (mt T S s T.length) := by omega
            have m1 := C13z h0 hsl
            have m2 := C13z (T := T) (S := Y) (s := s) (osE_of ⟨hT0, hT8⟩ ⟨by omega, by omega⟩ (fun i hi => by have := ht i hi; omega) (fun i hi => hYs i (by omega))) (by omega)
            have m3 := C13z (T := X) (S := S) (s := s) (osE_of ⟨by omega, by omega⟩ ⟨by omega, by omega⟩ (fun i hi => hTs i (by omega)) (fun i hi => by have := hs i hi; omega)) (by omega)
            have m4 := C13z (T := T) (S := A) (s := s + 1) (osE_of ⟨hT0, hT8⟩ ⟨by omega, by omega⟩ (fun i hi => by have := ht i hi; omega) (fun i hi => hAs i (by omega))) (by omega)
            rw [hms s hsl] at m2
            rw [lT, hmt s] at m3
            rw [hmm s hsl] at m4
            have k1 := C14 (l := T) (by omega)
            have k2 := C14 (l := S) (by omega)
            have k3 := C14 (l := Y) (by omega)
            have k4 := C14 (l := X) (by omega)
            have k5 := C14 (l := A) (by omega)
            have ec1 := C15z (lim := 2 * lim) h0 hTS (by omega)
            have ec2 := C15z (lim := lim) h0 hTS (by omega)
            have hec := ecL_mono (T := T) (S := S) (a := 2 * lim) (b := lim) (by omega)
            have hel : (ecL T S lim).length ≤ S.length := by
              have := fltL_len (isEB lim (pwF T S) T.length (S.length - T.length + 1)) (S.length - T.length + 1)
              simp only [ecL]; omega
            generalize mt T S s T.length = z at *
            generalize ecL T S (2 * lim) = E2 at *
            generalize ecL T S lim = E1 at *
            have g1 := C21 (a := z) (b := b) ⟨by omega, by omega⟩
            have g2 := C23 (a := b) (by omega)
            have g3 := C21 (a := z) (b := gConj b) ⟨by omega, by simp only [gConj]; omega⟩
            have w1 := C17 (n := z.1) (lo := -10000) (hi := 10000)
            have w2 := C17 (n := z.2) (lo := -10000) (hi := 10000)
            rw [decide_eq_true (by omega)] at w1 w2
            (repeat' first | (refine Owe.same ?_; first | refine Owe.o ?_ | refine Owe.mk ?_ ?_) | (refine Fork.same ?_; (first | refine fkY ?_ | refine fkF ?_ | ((first | refine fkD ?_ ?_ | refine fkN ?_ ?_ | refine fkM ?_ ?_) <;> intro h))) | ((first | refine OpsL.same ?_ | refine OpsDL.same ?_); first | refine oK c22 rfl rfl rfl ?_ | refine oK k1 rfl rfl rfl ?_ | refine oK k2 rfl rfl rfl ?_ | refine oK k3 rfl rfl rfl ?_ | refine oK k4 rfl rfl rfl ?_ | refine oK m1 rfl rfl rfl ?_ | refine oK m2 rfl rfl rfl ?_ | refine oK m3 rfl rfl rfl ?_) | refine MvQ.stay ?_)
            refine OpsL.frz 182 _ rfl rfl (Nat.le_refl _) ?_
            refine OpsL.as 182 (.c (prs A)) (QQ.sound (.dapp ⟨_, rfl, hmA⟩)) ?_
            (repeat' first | (refine Owe.same ?_; first | refine Owe.o ?_ | refine Owe.mk ?_ ?_) | (refine Fork.same ?_; (first | refine fkY ?_ | refine fkF ?_ | ((first | refine fkD ?_ ?_ | refine fkN ?_ ?_ | refine fkM ?_ ?_) <;> intro h))) | ((first | refine OpsL.same ?_ | refine OpsDL.same ?_); first | refine oK k5 rfl rfl rfl ?_ | refine oK k1 rfl rfl rfl ?_ | refine oK k2 rfl rfl rfl ?_ | refine oK m4 rfl rfl rfl ?_ | refine oK w1 rfl rfl rfl ?_ | refine oK w2 rfl rfl rfl ?_ | refine oK g1 rfl rfl rfl ?_ | refine oK g2 rfl rfl rfl ?_ | refine oK g3 rfl rfl rfl ?_ | refine oK ec1 rfl rfl rfl ?_ | refine oK ec2 rfl rfl rfl ?_) | refine MvQ.stay ?_)
            refine Sat.lp0 (fun i : Nat => [(25, vi .i64 i), (21, .c (ints E2)), (23, .c (ints E1))]) (fun i => i ≤ E2.length) (fun i => E2.length - i) 0 (Nat.zero_le _) (by ((first | refine qen ?_ | refine qvs ?_ | refine qeq ?_ | refine qst ?_ | refine qv ?_ | refine qc ?_ | refine qe ?_ | refine qcs ?_ | skip); (repeat' first | exact rfl | (refine qS ?_; constructor)))) ?_
            intro i hi
            refine Fork.dec (fun hlt => ?_) (fun hlt => ?_)
            · have hlt : i < E2.length := by omega
              have c24 := C24 (l := E1) (n := E2.getD i 0) (by omega)
              rw [decide_eq_true (hec.2 _ (getD_mem 0 hlt))] at c24
              (repeat' first | (refine Owe.same ?_; first | refine Owe.o ?_ | refine Owe.mk ?_ ?_) | (refine Fork.same ?_; (first | refine fkY ?_ | refine fkF ?_ | ((first | refine fkD ?_ ?_ | refine fkN ?_ ?_ | refine fkM ?_ ?_) <;> intro h))) | ((first | refine OpsL.same ?_ | refine OpsDL.same ?_); first | refine oK c24 rfl rfl rfl ?_) | refine MvQ.stay ?_)
              exact again0 (i + 1) hlt (by omega) (by ((first | refine qen ?_ | refine qvs ?_ | refine qeq ?_ | refine qst ?_ | refine qv ?_ | refine qc ?_ | refine qe ?_ | refine qcs ?_ | skip); (repeat' first | exact rfl | (refine qS ?_; constructor))))
            · (repeat' first | (refine Owe.same ?_; first | refine Owe.o ?_ | refine Owe.mk ?_ ?_) | (refine Fork.same ?_; (first | refine fkY ?_ | refine fkF ?_ | ((first | refine fkD ?_ ?_ | refine fkN ?_ ?_ | refine fkM ?_ ?_) <;> intro h))) | ((first | refine OpsL.same ?_ | refine OpsDL.same ?_); first | refine oK k1 rfl rfl rfl ?_) | refine MvQ.stay ?_)
              (refine rqK rfl ?_; (repeat' first | exact rfl | (refine qS ?_; constructor)))
  · by_cases hS : S.length ≤ 38
    · generalize hE : osE T S = e at *
      refine pi1 fn5 ?_
      (repeat' first | (refine Owe.same ?_; first | refine Owe.o ?_ | refine Owe.mk ?_ ?_) | (refine Fork.same ?_; (first | refine fkY ?_ | refine fkF ?_ | ((first | refine fkD ?_ ?_ | refine fkN ?_ ?_ | refine fkM ?_ ?_) <;> intro h))) | ((first | refine OpsL.same ?_ | refine OpsDL.same ?_); first | refine oK C8 rfl rfl rfl ?_ | refine oK c16 rfl rfl rfl ?_ | refine oK C17 rfl rfl rfl ?_) | refine MvQ.stay ?_)
      all_goals (refine rqK rfl ?_; (repeat' first | exact rfl | (refine qS ?_; constructor)))
    · refine pi1 fn5 ?_
      (repeat' first | (refine Owe.same ?_; first | refine Owe.o ?_ | refine Owe.mk ?_ ?_) | (refine Fork.same ?_; (first | refine fkY ?_ | refine fkF ?_ | ((first | refine fkD ?_ ?_ | refine fkN ?_ ?_ | refine fkM ?_ ?_) <;> intro h))) | ((first | refine OpsL.same ?_ | refine OpsDL.same ?_); first | refine oK C8 rfl rfl rfl ?_) | refine MvQ.stay ?_)
      (refine rqK rfl ?_; (repeat' first | exact rfl | (refine qS ?_; constructor)))
end Go.Pw
