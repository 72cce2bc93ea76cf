/- Steps toward the row of this claim: part 4 of 5. Proved as named below, on no condition but those that each theorem states. -/
import Derived.Test.YtbgikbenhglmkaaGreatSonarDepthsC
import Derived.Test.YtbgikbenhglmkaaGreatProg
set_option linter.unusedVariables false
set_option maxHeartbeats 2000000
set_option maxRecDepth 100000
namespace Go.Pw
open Go Go.Proofs
/-- moonpool/sonar.openSamples -/
def lc125 : LCode :=
  (.seq (.region [⟨some 4, .mv (.const (.int .i64 0)), none⟩]) (.seq (.region [⟨some 5, .mv (.tmp 0), none⟩, ⟨some 6, .call (.func 158) [(.tmp 5), (.const (.int .i64 8))], none⟩,
    ⟨some 7, .mv (.tmp 1), none⟩, ⟨some 8, .call (.func 158) [(.tmp 7), (.const (.int .i64 40))], none⟩, ⟨some 9, .lit false 30 1 [(.tmp 6), (.tmp 8)], none⟩, ⟨some 10, .call (.func
    71) [(.tmp 9)], none⟩, ⟨some 4, .mv (.tmp 10), none⟩]) .ret))
theorem low125 : lowF Tryz.prog [] Tryz.f125 = some (11, lc125.strip, [.tmp 4]) := by kernel_rfl
theorem fn125 : FnOk Tryz.prog 125 11 lc125 [.tmp 4] := ⟨Tryz.call125, [], _, Tryz.func125, low125⟩
/-- moonpool/sonar.match -/
def lc126 : LCode :=
  (.seq (.region [⟨some 4, .mv (.const (.complex .f64 0 0)), none⟩]) (.seq (.region [⟨some 5, .mv (.const (.complex .f64 0 0)), none⟩]) (.seq (.seq (.region [⟨some 8, .mv (.tmp 0),
    none⟩, ⟨some 9, .len (.tmp 8), none⟩, ⟨some 10, .mv (.const (.int .i64 0)), none⟩]) (.block 0 (.loop (.seq (.region [⟨some 11, .bin .lss (.tmp 10) (.tmp 9), none⟩]) (.seq (.cond
    (.tmp 11) .skip (.exit 0)) (.seq (.block 1 (.seq (.region [⟨some 12, .mv (.tmp 10), none⟩, ⟨some 13, .idx 2 (.tmp 8) (.tmp 10), none⟩, ⟨some 14, .load true 2 (.tmp 13), none⟩,
    ⟨some 7, .alloc [(.int .i64 0), (.int .i64 0)], none⟩, ⟨some 6, .mv (.tmp 12), none⟩, ⟨none, .store 2 (.tmp 7) (.tmp 14), none⟩]) (.regionD [⟨some 15, .mv (.tmp 5), none⟩, ⟨some
    16, .fld 0 (.tmp 7), none⟩, ⟨some 17, .load false 1 (.tmp 16), none⟩, ⟨some 18, .toF (.tmp 17), none⟩, ⟨some 19, .fld 1 (.tmp 7), none⟩, ⟨some 20, .load false 1 (.tmp 19),
    none⟩, ⟨some 21, .toF (.tmp 20), none⟩, ⟨some 22, .un .neg (.tmp 21), none⟩, ⟨some 23, .cplx (.tmp 18) (.tmp 22), none⟩, ⟨some 24, .mv (.tmp 1), none⟩, ⟨some 25, .mv (.tmp 6),
    none⟩, ⟨some 26, .idx 2 (.tmp 24) (.tmp 25), none⟩, ⟨some 27, .fld 0 (.tmp 26), none⟩, ⟨some 28, .load false 1 (.tmp 27), none⟩, ⟨some 29, .toF (.tmp 28), none⟩, ⟨some 30, .mv
    (.tmp 1), none⟩, ⟨some 31, .mv (.tmp 6), none⟩, ⟨some 32, .idx 2 (.tmp 30) (.tmp 31), none⟩, ⟨some 33, .fld 1 (.tmp 32), none⟩, ⟨some 34, .load false 1 (.tmp 33), none⟩, ⟨some
    35, .toF (.tmp 34), none⟩, ⟨some 36, .cplx (.tmp 29) (.tmp 35), none⟩, ⟨some 37, .cbin .mul (.tmp 23) (.tmp 36), none⟩, ⟨some 38, .cbin .add (.tmp 15) (.tmp 37), none⟩, ⟨some 5,
    .mv (.tmp 38), none⟩] [0, 0, 2, 6, 0, 16, 48, 112, 254, 0, 0, 1536, 3584, 7680, 15872, 0, 0, 98304, 229376, 491520, 1015808, 2096640, 4194302, 8388607, 16777215] [0, 1, 2, 3, 4,
    5, 6, 7, 8, 9, 10, 11, 12, 13, 14, 15, 16, 17, 18, 19, 20, 21, 22, 23, 24]))) (.region [⟨some 39, .bin .add (.tmp 10) (.const (.int .i64 1)), none⟩, ⟨some 10, .mv (.tmp 39),
    none⟩]))))))) (.seq (.region [⟨some 40, .mv (.tmp 5), none⟩, ⟨some 4, .mv (.tmp 40), none⟩]) .ret))))
theorem low126 : lowF Tryz.prog [] Tryz.f126 = some (41, lc126.strip, [.tmp 4]) := by kernel_rfl
theorem fn126 : FnOk Tryz.prog 126 41 lc126 [.tmp 4] := ⟨Tryz.call126, [], _, Tryz.func126, low126⟩
/-- slices.ContainsFunc[[]int,int] -/
def lc127 : LCode :=
  (.seq (.region [⟨some 4, .mv (.const (.bool false)), none⟩]) (.seq (.region [⟨some 5, .mv (.tmp 0), none⟩, ⟨some 6, .mv (.tmp 1), none⟩, ⟨some 7, .call (.func 159) [(.tmp 5),
    (.tmp 6)], none⟩, ⟨some 8, .bin .geq (.tmp 7) (.const (.int .i64 0)), none⟩, ⟨some 4, .mv (.tmp 8), none⟩]) .ret))
theorem low127 : lowF Tryz.prog [] Tryz.f127 = some (9, lc127.strip, [.tmp 4]) := by kernel_rfl
theorem fn127 : FnOk Tryz.prog 127 9 lc127 [.tmp 4] := ⟨Tryz.call127, [], _, Tryz.func127, low127⟩
/-- moonpool/sonar.EchoesIn$1 -/
def lc128 : LCode :=
  (.seq (.region [⟨some 3, .mv (.const (.bool false)), none⟩]) (.seq (.region [⟨some 4, .mv (.tmp 0), none⟩, ⟨some 5, .load false 1 (.tmp 1), none⟩, ⟨some 6, .bin .geq (.tmp 4)
    (.tmp 5), none⟩, ⟨some 3, .mv (.tmp 6), none⟩]) .ret))
theorem low128 : lowF Tryz.prog [] Tryz.f128 = some (7, lc128.strip, [.tmp 3]) := by kernel_rfl
theorem fn128 : FnOk Tryz.prog 128 7 lc128 [.tmp 3] := ⟨Tryz.call128, [], _, Tryz.func128, low128⟩
/-- slices.Max[[]int,int] -/
def lc129 : LCode :=
  (.seq (.region [⟨some 2, .mv (.const (.int .i64 0)), none⟩]) (.seq (.seq (.region [⟨some 5, .mv (.tmp 0), none⟩, ⟨some 6, .len (.tmp 5), none⟩, ⟨some 7, .bin .lss (.tmp 6) (.const
    (.int .i64 1)), none⟩]) (.cond (.tmp 7) (.region [⟨some 8, .bad, none⟩, ⟨none, .bad, none⟩]) .skip)) (.seq (.region [⟨some 9, .mv (.tmp 0), none⟩, ⟨some 10, .idx 1 (.tmp 9)
    (.const (.int .i64 0)), none⟩, ⟨some 11, .load false 1 (.tmp 10), none⟩, ⟨some 3, .mv (.tmp 11), none⟩]) (.seq (.seq (.region [⟨some 4, .mv (.const (.int .i64 1)), none⟩])
    (.block 0 (.loop (.seq (.seq (.region [⟨some 12, .mv (.tmp 4), none⟩, ⟨some 13, .mv (.tmp 0), none⟩, ⟨some 14, .len (.tmp 13), none⟩, ⟨some 15, .bin .lss (.tmp 12) (.tmp 14),
    none⟩]) (.cond (.tmp 15) .skip (.exit 0))) (.seq (.block 1 (.region [⟨some 18, .mv (.tmp 3), none⟩, ⟨some 19, .mv (.tmp 0), none⟩, ⟨some 20, .mv (.tmp 4), none⟩, ⟨some 21, .idx
    1 (.tmp 19) (.tmp 20), none⟩, ⟨some 22, .load false 1 (.tmp 21), none⟩, ⟨some 23, .mm true [(.tmp 18), (.tmp 22)], none⟩, ⟨some 3, .mv (.tmp 23), none⟩])) (.region [⟨some 16,
    .mv (.tmp 4), none⟩, ⟨some 17, .bin .add (.tmp 16) (.const (.int .i64 1)), none⟩, ⟨some 4, .mv (.tmp 17), none⟩])))))) (.seq (.region [⟨some 24, .mv (.tmp 3), none⟩, ⟨some 2,
    .mv (.tmp 24), none⟩]) .ret)))))
theorem low129 : lowF Tryz.prog [] Tryz.f129 = some (25, lc129.strip, [.tmp 2]) := by kernel_rfl
theorem fn129 : FnOk Tryz.prog 129 25 lc129 [.tmp 2] := ⟨Tryz.call129, [], _, Tryz.func129, low129⟩
/-- moonpool/moonpoollaw04.Ray -/
def lc130 : LCode :=
  (.seq (.region [⟨some 10, .alloc [(.int .i64 0), (.int .i64 0), (.int .i64 0), (.int .i64 0), (.bool false)], none⟩]) (.seq (.region [⟨some 11, .mv (.tmp 0), none⟩, ⟨some 12, .mv
    (.tmp 1), none⟩, ⟨some 13, .build [(.int .i64 0), (.int .i64 0)] [(0, 1, (.tmp 11)), (1, 1, (.tmp 12))], none⟩, ⟨some 14, .mv (.tmp 2), none⟩, ⟨some 15, .mv (.tmp 3), none⟩,
    ⟨some 16, .build [(.int .i64 0), (.int .i64 0)] [(0, 1, (.tmp 14)), (1, 1, (.tmp 15))], none⟩, ⟨some 17, .mv (.tmp 4), none⟩, ⟨some 18, .build [(.int .i64 0), (.int .i64 0),
    (.int .i64 0), (.int .i64 0), (.bool false)] [(0, 2, (.tmp 13)), (2, 2, (.tmp 16)), (4, 1, (.tmp 17))], none⟩, ⟨none, .store 5 (.tmp 10) (.tmp 18), none⟩]) .ret))
theorem low130 : lowF Tryz.prog [] Tryz.f130 = some (19, lc130.strip, [.cell 10 true 5]) := by kernel_rfl
theorem fn130 : FnOk Tryz.prog 130 19 lc130 [.cell 10 true 5] := ⟨Tryz.call130, [], _, Tryz.func130, low130⟩
/-- moonpool/sonar.OddRays$1 -/
def lc131 : LCode :=
  (.seq (.region [⟨some 3, .mv (.const (.int .i64 0)), none⟩, ⟨some 4, .mv (.const (.bool false)), none⟩]) (.seq (.region [⟨some 5, .mv (.tmp 0), none⟩, ⟨some 6, .len (.tmp 5),
    none⟩, ⟨some 7, .load true 3 (.tmp 1), none⟩, ⟨some 8, .mv (.tmp 0), none⟩, ⟨some 9, .call (.func 120) [(.tmp 7), (.tmp 8)], none⟩, ⟨some 10, .call (.func 132) [(.tmp 9),
    (.const (.int .i64 3))], none⟩, ⟨some 11, .un .not (.tmp 10), none⟩, ⟨some 3, .mv (.tmp 6), none⟩, ⟨some 4, .mv (.tmp 11), none⟩]) .ret))
theorem low131 : lowF Tryz.prog [] Tryz.f131 = some (12, lc131.strip, [.tmp 3, .tmp 4]) := by kernel_rfl
theorem fn131 : FnOk Tryz.prog 131 12 lc131 [.tmp 3, .tmp 4] := ⟨Tryz.call131, [], _, Tryz.func131, low131⟩
/-- slices.Contains[[]int,int] -/
def lc132 : LCode :=
  (.seq (.region [⟨some 4, .mv (.const (.bool false)), none⟩]) (.seq (.region [⟨some 5, .mv (.tmp 0), none⟩, ⟨some 6, .mv (.tmp 1), none⟩, ⟨some 7, .call (.func 160) [(.tmp 5),
    (.tmp 6)], none⟩, ⟨some 8, .bin .geq (.tmp 7) (.const (.int .i64 0)), none⟩, ⟨some 4, .mv (.tmp 8), none⟩]) .ret))
theorem low132 : lowF Tryz.prog [] Tryz.f132 = some (9, lc132.strip, [.tmp 4]) := by kernel_rfl
theorem fn132 : FnOk Tryz.prog 132 9 lc132 [.tmp 4] := ⟨Tryz.call132, [], _, Tryz.func132, low132⟩
/-- slices.Clip[[]int,int] -/
def lc133 : LCode :=
  (.seq (.region [⟨some 2, .mv (.const (.slice none 0 0)), none⟩]) (.seq (.region [⟨some 3, .mv (.tmp 0), none⟩, ⟨some 4, .mv (.tmp 0), none⟩, ⟨some 5, .len (.tmp 4), none⟩, ⟨some
    6, .mv (.tmp 0), none⟩, ⟨some 7, .len (.tmp 6), none⟩, ⟨some 8, .clip 1 (.tmp 3) (.tmp 5) (.tmp 7), none⟩, ⟨some 2, .mv (.tmp 8), none⟩]) .ret))
theorem low133 : lowF Tryz.prog [] Tryz.f133 = some (9, lc133.strip, [.tmp 2]) := by kernel_rfl
theorem fn133 : FnOk Tryz.prog 133 9 lc133 [.tmp 2] := ⟨Tryz.call133, [], _, Tryz.func133, low133⟩
/-- cmp.Or[int] -/
def lc134 : LCode :=
  (.seq (.region [⟨some 2, .mv (.const (.int .i64 0)), none⟩]) (.seq (.region [⟨some 3, .mv (.const (.int .i64 0)), none⟩]) (.seq (.seq (.region [⟨some 6, .mv (.tmp 0), none⟩, ⟨some
    7, .len (.tmp 6), none⟩, ⟨some 8, .mv (.const (.int .i64 0)), none⟩]) (.block 0 (.loop (.seq (.region [⟨some 9, .bin .lss (.tmp 8) (.tmp 7), none⟩]) (.seq (.cond (.tmp 9) .skip
    (.exit 0)) (.seq (.block 1 (.seq (.region [⟨some 10, .idx 1 (.tmp 6) (.tmp 8), none⟩, ⟨some 11, .load false 1 (.tmp 10), none⟩, ⟨some 5, .mv (.tmp 11), none⟩]) (.seq (.region
    [⟨some 12, .mv (.tmp 5), none⟩, ⟨some 13, .mv (.tmp 3), none⟩, ⟨some 14, .bin .neq (.tmp 12) (.tmp 13), none⟩]) (.cond (.tmp 14) (.seq (.region [⟨some 15, .mv (.tmp 5), none⟩,
    ⟨some 2, .mv (.tmp 15), none⟩]) .ret) .skip)))) (.region [⟨some 16, .bin .add (.tmp 8) (.const (.int .i64 1)), none⟩, ⟨some 8, .mv (.tmp 16), none⟩]))))))) (.seq (.region [⟨some
    17, .mv (.tmp 3), none⟩, ⟨some 2, .mv (.tmp 17), none⟩]) .ret))))
theorem low134 : lowF Tryz.prog [] Tryz.f134 = some (18, lc134.strip, [.tmp 2]) := by kernel_rfl
theorem fn134 : FnOk Tryz.prog 134 18 lc134 [.tmp 2] := ⟨Tryz.call134, [], _, Tryz.func134, low134⟩
/-- cmp.Compare[int] -/
def lc135 : LCode :=
  (.seq (.region [⟨some 4, .mv (.const (.int .i64 0)), none⟩]) (.seq (.region [⟨some 7, .mv (.tmp 0), none⟩, ⟨some 8, .call (.func 161) [(.tmp 7)], none⟩, ⟨some 5, .mv (.tmp 8),
    none⟩]) (.seq (.region [⟨some 9, .mv (.tmp 1), none⟩, ⟨some 10, .call (.func 161) [(.tmp 9)], none⟩, ⟨some 6, .mv (.tmp 10), none⟩]) (.seq (.seq (.region [⟨some 11, .mv (.tmp
    5), none⟩]) (.cond (.tmp 11) (.seq (.seq (.region [⟨some 12, .mv (.tmp 6), none⟩]) (.cond (.tmp 12) (.seq (.region [⟨some 4, .mv (.const (.int .i64 0)), none⟩]) .ret) .skip))
    (.seq (.region [⟨some 4, .mv (.const (.int .i64 (-1))), none⟩]) .ret)) .skip)) (.seq (.seq (.region [⟨some 13, .mv (.tmp 6), none⟩]) (.cond (.tmp 13) (.seq (.region [⟨some 4,
    .mv (.const (.int .i64 1)), none⟩]) .ret) .skip)) (.seq (.seq (.region [⟨some 14, .mv (.tmp 0), none⟩, ⟨some 15, .mv (.tmp 1), none⟩, ⟨some 16, .bin .lss (.tmp 14) (.tmp 15),
    none⟩]) (.cond (.tmp 16) (.seq (.region [⟨some 4, .mv (.const (.int .i64 (-1))), none⟩]) .ret) .skip)) (.seq (.seq (.region [⟨some 17, .mv (.tmp 0), none⟩, ⟨some 18, .mv (.tmp
    1), none⟩, ⟨some 19, .bin .gtr (.tmp 17) (.tmp 18), none⟩]) (.cond (.tmp 19) (.seq (.region [⟨some 4, .mv (.const (.int .i64 1)), none⟩]) .ret) .skip)) (.seq (.region [⟨some 4,
    .mv (.const (.int .i64 0)), none⟩]) .ret))))))))
theorem low135 : lowF Tryz.prog [] Tryz.f135 = some (20, lc135.strip, [.tmp 4]) := by kernel_rfl
theorem fn135 : FnOk Tryz.prog 135 20 lc135 [.tmp 4] := ⟨Tryz.call135, [], _, Tryz.func135, low135⟩
/-- slices.Compare[[]int,int] -/
def lc136 : LCode :=
  (.seq (.region [⟨some 4, .mv (.const (.int .i64 0)), none⟩]) (.seq (.seq (.region [⟨some 9, .mv (.tmp 0), none⟩, ⟨some 10, .len (.tmp 9), none⟩, ⟨some 11, .mv (.const (.int .i64
    0)), none⟩]) (.block 0 (.loop (.seq (.region [⟨some 12, .bin .lss (.tmp 11) (.tmp 10), none⟩]) (.seq (.cond (.tmp 12) .skip (.exit 0)) (.seq (.block 1 (.seq (.region [⟨some 13,
    .mv (.tmp 11), none⟩, ⟨some 14, .idx 1 (.tmp 9) (.tmp 11), none⟩, ⟨some 15, .load false 1 (.tmp 14), none⟩, ⟨some 5, .mv (.tmp 13), none⟩, ⟨some 6, .mv (.tmp 15), none⟩]) (.seq
    (.seq (.region [⟨some 16, .mv (.tmp 5), none⟩, ⟨some 17, .mv (.tmp 1), none⟩, ⟨some 18, .len (.tmp 17), none⟩, ⟨some 19, .bin .geq (.tmp 16) (.tmp 18), none⟩]) (.cond (.tmp 19)
    (.seq (.region [⟨some 4, .mv (.const (.int .i64 1)), none⟩]) .ret) .skip)) (.seq (.region [⟨some 20, .mv (.tmp 1), none⟩, ⟨some 21, .mv (.tmp 5), none⟩, ⟨some 22, .idx 1 (.tmp
    20) (.tmp 21), none⟩, ⟨some 23, .load false 1 (.tmp 22), none⟩, ⟨some 7, .mv (.tmp 23), none⟩]) (.seq (.region [⟨some 24, .mv (.tmp 6), none⟩, ⟨some 25, .mv (.tmp 7), none⟩,
    ⟨some 26, .call (.func 135) [(.tmp 24), (.tmp 25)], none⟩, ⟨some 8, .mv (.tmp 26), none⟩]) (.seq (.region [⟨some 27, .mv (.tmp 8), none⟩, ⟨some 28, .bin .neq (.tmp 27) (.const
    (.int .i64 0)), none⟩]) (.cond (.tmp 28) (.seq (.region [⟨some 29, .mv (.tmp 8), none⟩, ⟨some 4, .mv (.tmp 29), none⟩]) .ret) .skip))))))) (.region [⟨some 30, .bin .add (.tmp
    11) (.const (.int .i64 1)), none⟩, ⟨some 11, .mv (.tmp 30), none⟩]))))))) (.seq (.seq (.region [⟨some 31, .mv (.tmp 0), none⟩, ⟨some 32, .len (.tmp 31), none⟩, ⟨some 33, .mv
    (.tmp 1), none⟩, ⟨some 34, .len (.tmp 33), none⟩, ⟨some 35, .bin .lss (.tmp 32) (.tmp 34), none⟩]) (.cond (.tmp 35) (.seq (.region [⟨some 4, .mv (.const (.int .i64 (-1))),
    none⟩]) .ret) .skip)) (.seq (.region [⟨some 4, .mv (.const (.int .i64 0)), none⟩]) .ret))))
theorem low136 : lowF Tryz.prog [] Tryz.f136 = some (36, lc136.strip, [.tmp 4]) := by kernel_rfl
theorem fn136 : FnOk Tryz.prog 136 36 lc136 [.tmp 4] := ⟨Tryz.call136, [], _, Tryz.func136, low136⟩
/-- moonpool/sonar.size -/
def lc137 : LCode :=
  (.seq (.region [⟨some 2, .mv (.const (.int .i64 0)), none⟩]) (.seq (.region [⟨some 3, .mv (.tmp 0), none⟩, ⟨some 4, .mv (.tmp 0), none⟩, ⟨some 5, .un .neg (.tmp 4), none⟩, ⟨some
    6, .mm true [(.tmp 3), (.tmp 5)], none⟩, ⟨some 2, .mv (.tmp 6), none⟩]) .ret))
theorem low137 : lowF Tryz.prog [] Tryz.f137 = some (7, lc137.strip, [.tmp 2]) := by kernel_rfl
theorem fn137 : FnOk Tryz.prog 137 7 lc137 [.tmp 2] := ⟨Tryz.call137, [], _, Tryz.func137, low137⟩
/-- moonpool/sonar.meet -/
def lc138 : LCode :=
  (.seq (.region [⟨some 5, .boxS (.tmp 0), none⟩, ⟨some 6, .boxS (.tmp 1), none⟩, ⟨some 10, .mv (.const (.bool false)), none⟩]) (.seq (.region [⟨some 12, .mv (.tmp 3), none⟩, ⟨some
    13, .mv (.tmp 2), none⟩, ⟨some 14, .bin .sub (.tmp 12) (.tmp 13), none⟩, ⟨some 15, .mv (.tmp 4), none⟩, ⟨some 16, .bin .add (.tmp 14) (.tmp 15), none⟩, ⟨some 17, .mv (.tmp 4),
    none⟩, ⟨some 18, .bin .rem (.tmp 16) (.tmp 17), none⟩, ⟨some 11, .mv (.tmp 18), none⟩]) (.seq (.regionD [⟨some 19, .mv (.tmp 11), none⟩, ⟨some 20, .load true 3 (.tmp 5), none⟩,
    ⟨some 21, .call (.func 78) [(.tmp 20)], none⟩, ⟨some 22, .bin .lss (.tmp 19) (.tmp 21), none⟩, ⟨some 23, .mv (.tmp 22), none⟩, ⟨some 24, .mv (.tmp 4), some (23, false)⟩, ⟨some
    25, .mv (.tmp 11), some (23, false)⟩, ⟨some 26, .bin .sub (.tmp 24) (.tmp 25), some (23, false)⟩, ⟨some 27, .mv (.tmp 4), some (23, false)⟩, ⟨some 28, .bin .rem (.tmp 26) (.tmp
    27), some (23, false)⟩, ⟨some 29, .load true 3 (.tmp 6), some (23, false)⟩, ⟨some 30, .call (.func 78) [(.tmp 29)], some (23, false)⟩, ⟨some 31, .bin .lss (.tmp 28) (.tmp 30),
    some (23, false)⟩, ⟨some 32, .pick (.tmp 23) (.const (.bool true)) (.tmp 31), none⟩, ⟨some 10, .mv (.tmp 32), none⟩] [0, 0, 2, 7, 15, 31, 31, 127, 31, 511, 31, 1055, 4095, 8191,
    16383] [0, 1, 2, 3, 4, 5, 6, 7, 8, 9, 10, 11, 12, 13, 14]) .ret)))
theorem low138 : lowF Tryz.prog [5, 6] Tryz.f138 = some (33, lc138.strip, [.tmp 10]) := by kernel_rfl
theorem fn138 : FnOk Tryz.prog 138 33 lc138 [.tmp 10] := ⟨Tryz.call138, [5, 6], _, Tryz.func138, low138⟩
/-- (moonpool/sonar.quotient).plus -/
def lc140 : LCode :=
  (.seq (.region [⟨some 2, .boxS (.tmp 0), none⟩, ⟨some 3, .boxS (.tmp 1), none⟩, ⟨some 4, .alloc [(.int .i64 0), (.int .i64 0)], none⟩]) (.seq (.region [⟨some 7, .fld 1 (.tmp 2),
    none⟩, ⟨some 8, .load false 1 (.tmp 7), none⟩, ⟨some 9, .fld 1 (.tmp 3), none⟩, ⟨some 10, .load false 1 (.tmp 9), none⟩, ⟨some 11, .call (.func 162) [(.tmp 8), (.tmp 10)],
    none⟩, ⟨some 5, .mv (.tmp 11), none⟩]) (.seq (.regionD [⟨some 12, .fld 0 (.tmp 2), none⟩, ⟨some 13, .load false 1 (.tmp 12), none⟩, ⟨some 14, .fld 1 (.tmp 3), none⟩, ⟨some 15,
    .load false 1 (.tmp 14), none⟩, ⟨some 16, .mv (.tmp 5), none⟩, ⟨some 17, .bin .quo (.tmp 15) (.tmp 16), none⟩, ⟨some 18, .bin .mul (.tmp 13) (.tmp 17), none⟩, ⟨some 19, .fld 0
    (.tmp 3), none⟩, ⟨some 20, .load false 1 (.tmp 19), none⟩, ⟨some 21, .fld 1 (.tmp 2), none⟩, ⟨some 22, .load false 1 (.tmp 21), none⟩, ⟨some 23, .mv (.tmp 5), none⟩, ⟨some 24,
    .bin .quo (.tmp 22) (.tmp 23), none⟩, ⟨some 25, .bin .mul (.tmp 20) (.tmp 24), none⟩, ⟨some 26, .bin .add (.tmp 18) (.tmp 25), none⟩, ⟨some 27, .fld 1 (.tmp 2), none⟩, ⟨some 28,
    .load false 1 (.tmp 27), none⟩, ⟨some 29, .mv (.tmp 5), none⟩, ⟨some 30, .bin .quo (.tmp 28) (.tmp 29), none⟩, ⟨some 31, .fld 1 (.tmp 3), none⟩, ⟨some 32, .load false 1 (.tmp
    31), none⟩, ⟨some 33, .bin .mul (.tmp 30) (.tmp 32), none⟩, ⟨some 34, .build [(.int .i64 0), (.int .i64 0)] [(0, 1, (.tmp 26)), (1, 1, (.tmp 33))], none⟩, ⟨some 6, .alloc [(.int
    .i64 0), (.int .i64 0)], none⟩, ⟨none, .store 2 (.tmp 6) (.tmp 34), none⟩] [0, 1, 0, 4, 0, 28, 63, 0, 128, 0, 512, 0, 3584, 8064, 16383, 0, 32768, 0, 229376, 0, 524288, 2064384,
    4194303, 0, 16777215] [0, 1, 2, 3, 4, 5, 6, 7, 8, 9, 10, 11, 12, 13, 14, 15, 16, 17, 18, 19, 20, 21, 22, 23, 24]) (.seq (.region [⟨some 35, .fld 0 (.tmp 6), none⟩, ⟨some 36,
    .load false 1 (.tmp 35), none⟩, ⟨some 37, .fld 1 (.tmp 6), none⟩, ⟨some 38, .load false 1 (.tmp 37), none⟩, ⟨some 39, .call (.func 162) [(.tmp 36), (.tmp 38)], none⟩, ⟨some 5,
    .mv (.tmp 39), none⟩]) (.seq (.regionD [⟨some 40, .fld 0 (.tmp 6), none⟩, ⟨some 41, .load false 1 (.tmp 40), none⟩, ⟨some 42, .mv (.tmp 5), none⟩, ⟨some 43, .bin .quo (.tmp 41)
    (.tmp 42), none⟩, ⟨some 44, .fld 1 (.tmp 6), none⟩, ⟨some 45, .load false 1 (.tmp 44), none⟩, ⟨some 46, .mv (.tmp 5), none⟩, ⟨some 47, .bin .quo (.tmp 45) (.tmp 46), none⟩,
    ⟨some 48, .build [(.int .i64 0), (.int .i64 0)] [(0, 1, (.tmp 43)), (1, 1, (.tmp 47))], none⟩, ⟨none, .store 2 (.tmp 4) (.tmp 48), none⟩] [0, 1, 0, 7, 0, 16, 0, 112, 255, 511]
    [0, 1, 2, 3, 4, 5, 6, 7, 8, 9]) .ret)))))
theorem low140 : lowF Tryz.prog [2, 3] Tryz.f140 = some (49, lc140.strip, [.cell 4 true 2]) := by kernel_rfl
theorem fn140 : FnOk Tryz.prog 140 49 lc140 [.cell 4 true 2] := ⟨Tryz.call140, [2, 3], _, Tryz.func140, low140⟩
/-- moonpool/moonpoolbase.RatioInt -/
def lc142 : LCode :=
  (.seq (.region [⟨some 2, .alloc [(.int .i64 0), (.slice none 0 0), (.int .i64 0), (.slice none 0 0)], none⟩]) (.seq (.region [⟨some 3, .mv (.tmp 0), none⟩, ⟨some 4, .call (.func
    167) [(.tmp 3)], none⟩, ⟨some 5, .call (.func 167) [(.const (.int .i64 1))], none⟩, ⟨some 6, .build [(.int .i64 0), (.slice none 0 0), (.int .i64 0), (.slice none 0 0)] [(0, 2,
    (.tmp 4)), (2, 2, (.tmp 5))], none⟩, ⟨none, .store 4 (.tmp 2) (.tmp 6), none⟩]) .ret))
theorem low142 : lowF Tryz.prog [] Tryz.f142 = some (7, lc142.strip, [.cell 2 true 4]) := by kernel_rfl
theorem fn142 : FnOk Tryz.prog 142 7 lc142 [.cell 2 true 4] := ⟨Tryz.call142, [], _, Tryz.func142, low142⟩
/-- moonpool/moonpoolbase.RatioOf -/
def lc143 : LCode :=
  (.seq (.region [⟨some 4, .alloc [(.int .i64 0), (.slice none 0 0), (.int .i64 0), (.slice none 0 0)], none⟩]) (.seq (.region [⟨some 5, .mv (.tmp 0), none⟩, ⟨some 6, .call (.func
    167) [(.tmp 5)], none⟩, ⟨some 7, .mv (.tmp 1), none⟩, ⟨some 8, .call (.func 167) [(.tmp 7)], none⟩, ⟨some 9, .call (.func 170) [(.tmp 6), (.tmp 8)], none⟩, ⟨none, .store 4 (.tmp
    4) (.tmp 9), none⟩]) .ret))
theorem low143 : lowF Tryz.prog [] Tryz.f143 = some (10, lc143.strip, [.cell 4 true 4]) := by kernel_rfl
theorem fn143 : FnOk Tryz.prog 143 10 lc143 [.cell 4 true 4] := ⟨Tryz.call143, [], _, Tryz.func143, low143⟩
/-- moonpool/moonpoolref04.speed -/
def lc144 : LCode :=
  (.seq (.region [⟨some 2, .boxS (.tmp 0), none⟩, ⟨some 4, .mv (.const (.int .i64 0)), none⟩]) (.seq (.seq (.region [⟨some 5, .mv (.tmp 1), none⟩]) (.cond (.tmp 5) (.seq (.region
    [⟨some 6, .fld 1 (.tmp 2), none⟩, ⟨some 7, .fld 1 (.tmp 6), none⟩, ⟨some 8, .load false 1 (.tmp 7), none⟩, ⟨some 4, .mv (.tmp 8), none⟩]) .ret) .skip)) (.seq (.region [⟨some 9,
    .fld 1 (.tmp 2), none⟩, ⟨some 10, .fld 0 (.tmp 9), none⟩, ⟨some 11, .load false 1 (.tmp 10), none⟩, ⟨some 4, .mv (.tmp 11), none⟩]) .ret)))
theorem low144 : lowF Tryz.prog [2] Tryz.f144 = some (12, lc144.strip, [.tmp 4]) := by kernel_rfl
theorem fn144 : FnOk Tryz.prog 144 12 lc144 [.tmp 4] := ⟨Tryz.call144, [2], _, Tryz.func144, low144⟩
/-- moonpool/moonpoolbase.RatioCmp -/
def lc145 : LCode :=
  (.seq (.region [⟨some 2, .boxS (.tmp 0), none⟩, ⟨some 3, .boxS (.tmp 1), none⟩, ⟨some 4, .mv (.const (.int .i64 0)), none⟩]) (.seq (.regionD [⟨some 5, .fld 0 (.tmp 2), none⟩,
    ⟨some 6, .load true 2 (.tmp 5), none⟩, ⟨some 7, .fld 2 (.tmp 3), none⟩, ⟨some 8, .load true 2 (.tmp 7), none⟩, ⟨some 9, .call (.func 165) [(.tmp 6), (.tmp 8)], none⟩, ⟨some 10,
    .fld 0 (.tmp 3), none⟩, ⟨some 11, .load true 2 (.tmp 10), none⟩, ⟨some 12, .fld 2 (.tmp 2), none⟩, ⟨some 13, .load true 2 (.tmp 12), none⟩, ⟨some 14, .call (.func 165) [(.tmp
    11), (.tmp 13)], none⟩, ⟨some 15, .call (.func 171) [(.tmp 9), (.tmp 14)], none⟩, ⟨some 4, .mv (.tmp 15), none⟩] [0, 1, 0, 4, 15, 0, 32, 0, 128, 511, 1023, 2047] [0, 1, 2, 3, 4,
    5, 6, 7, 8, 9, 10, 11]) .ret))
theorem low145 : lowF Tryz.prog [2, 3] Tryz.f145 = some (16, lc145.strip, [.tmp 4]) := by kernel_rfl
theorem fn145 : FnOk Tryz.prog 145 16 lc145 [.tmp 4] := ⟨Tryz.call145, [2, 3], _, Tryz.func145, low145⟩
/-- moonpool/moonpoolbase.RatioAdd -/
def lc146 : LCode :=
  (.seq (.region [⟨some 2, .boxS (.tmp 0), none⟩, ⟨some 3, .boxS (.tmp 1), none⟩, ⟨some 4, .alloc [(.int .i64 0), (.slice none 0 0), (.int .i64 0), (.slice none 0 0)], none⟩]) (.seq
    (.regionD [⟨some 5, .fld 0 (.tmp 2), none⟩, ⟨some 6, .load true 2 (.tmp 5), none⟩, ⟨some 7, .fld 2 (.tmp 3), none⟩, ⟨some 8, .load true 2 (.tmp 7), none⟩, ⟨some 9, .call (.func
    165) [(.tmp 6), (.tmp 8)], none⟩, ⟨some 10, .fld 0 (.tmp 3), none⟩, ⟨some 11, .load true 2 (.tmp 10), none⟩, ⟨some 12, .fld 2 (.tmp 2), none⟩, ⟨some 13, .load true 2 (.tmp 12),
    none⟩, ⟨some 14, .call (.func 165) [(.tmp 11), (.tmp 13)], none⟩, ⟨some 15, .call (.func 172) [(.tmp 9), (.tmp 14)], none⟩, ⟨some 16, .fld 2 (.tmp 2), none⟩, ⟨some 17, .load
    true 2 (.tmp 16), none⟩, ⟨some 18, .fld 2 (.tmp 3), none⟩, ⟨some 19, .load true 2 (.tmp 18), none⟩, ⟨some 20, .call (.func 165) [(.tmp 17), (.tmp 19)], none⟩, ⟨some 21, .call
    (.func 170) [(.tmp 15), (.tmp 20)], none⟩, ⟨none, .store 4 (.tmp 4) (.tmp 21), none⟩] [0, 1, 0, 4, 15, 0, 32, 0, 128, 511, 1023, 0, 2048, 0, 8192, 32767, 65535, 131071] [0, 1,
    2, 3, 4, 5, 6, 7, 8, 9, 10, 11, 12, 13, 14, 15, 16, 17]) .ret))
theorem low146 : lowF Tryz.prog [2, 3] Tryz.f146 = some (22, lc146.strip, [.cell 4 true 4]) := by kernel_rfl
theorem fn146 : FnOk Tryz.prog 146 22 lc146 [.cell 4 true 4] := ⟨Tryz.call146, [2, 3], _, Tryz.func146, low146⟩
/-- moonpool/moonpoolbase.RatioMul -/
def lc147 : LCode :=
  (.seq (.region [⟨some 2, .boxS (.tmp 0), none⟩, ⟨some 3, .boxS (.tmp 1), none⟩, ⟨some 4, .alloc [(.int .i64 0), (.slice none 0 0), (.int .i64 0), (.slice none 0 0)], none⟩]) (.seq
    (.regionD [⟨some 5, .fld 0 (.tmp 2), none⟩, ⟨some 6, .load true 2 (.tmp 5), none⟩, ⟨some 7, .fld 0 (.tmp 3), none⟩, ⟨some 8, .load true 2 (.tmp 7), none⟩, ⟨some 9, .call (.func
    165) [(.tmp 6), (.tmp 8)], none⟩, ⟨some 10, .fld 2 (.tmp 2), none⟩, ⟨some 11, .load true 2 (.tmp 10), none⟩, ⟨some 12, .fld 2 (.tmp 3), none⟩, ⟨some 13, .load true 2 (.tmp 12),
    none⟩, ⟨some 14, .call (.func 165) [(.tmp 11), (.tmp 13)], none⟩, ⟨some 15, .call (.func 170) [(.tmp 9), (.tmp 14)], none⟩, ⟨none, .store 4 (.tmp 4) (.tmp 15), none⟩] [0, 1, 0,
    4, 15, 0, 32, 0, 128, 511, 1023, 2047] [0, 1, 2, 3, 4, 5, 6, 7, 8, 9, 10, 11]) .ret))
theorem low147 : lowF Tryz.prog [2, 3] Tryz.f147 = some (16, lc147.strip, [.cell 4 true 4]) := by kernel_rfl
theorem fn147 : FnOk Tryz.prog 147 16 lc147 [.cell 4 true 4] := ⟨Tryz.call147, [2, 3], _, Tryz.func147, low147⟩
/-- moonpool/moonpoolbase.RatioSub -/
def lc148 : LCode :=
  (.seq (.region [⟨some 2, .boxS (.tmp 0), none⟩, ⟨some 3, .boxS (.tmp 1), none⟩, ⟨some 4, .alloc [(.int .i64 0), (.slice none 0 0), (.int .i64 0), (.slice none 0 0)], none⟩]) (.seq
    (.regionD [⟨some 5, .load true 4 (.tmp 2), none⟩, ⟨some 6, .load true 4 (.tmp 3), none⟩, ⟨some 7, .call (.func 173) [(.tmp 6)], none⟩, ⟨some 8, .call (.func 146) [(.tmp 5),
    (.tmp 7)], none⟩, ⟨none, .store 4 (.tmp 4) (.tmp 8), none⟩] [0, 0, 2, 7, 15] [0, 1, 2, 3, 4]) .ret))
theorem low148 : lowF Tryz.prog [2, 3] Tryz.f148 = some (9, lc148.strip, [.cell 4 true 4]) := by kernel_rfl
theorem fn148 : FnOk Tryz.prog 148 9 lc148 [.cell 4 true 4] := ⟨Tryz.call148, [2, 3], _, Tryz.func148, low148⟩
/-- moonpool/moonpoolbase.WideNeg -/
def lc149 : LCode :=
  (.seq (.region [⟨some 1, .boxS (.tmp 0), none⟩, ⟨some 2, .alloc [(.int .i64 0), (.slice none 0 0)], none⟩]) (.seq (.region [⟨some 3, .fld 0 (.tmp 1), none⟩, ⟨some 4, .load false 1
    (.tmp 3), none⟩, ⟨some 5, .un .neg (.tmp 4), none⟩, ⟨some 6, .fld 1 (.tmp 1), none⟩, ⟨some 7, .load false 1 (.tmp 6), none⟩, ⟨some 8, .build [(.int .i64 0), (.slice none 0 0)]
    [(0, 1, (.tmp 5)), (1, 1, (.tmp 7))], none⟩, ⟨none, .store 2 (.tmp 2) (.tmp 8), none⟩]) .ret))
theorem low149 : lowF Tryz.prog [1] Tryz.f149 = some (9, lc149.strip, [.cell 2 true 2]) := by kernel_rfl
theorem fn149 : FnOk Tryz.prog 149 9 lc149 [.cell 2 true 2] := ⟨Tryz.call149, [1], _, Tryz.func149, low149⟩
/-- moonpool/sonar.gridErr$1 -/
def lc150 : LCode :=
  (.seq (.region [⟨some 2, .mv (.const (.bool false)), none⟩]) (.seq (.region [⟨some 3, .mv (.tmp 0), none⟩, ⟨some 4, .call (.func 84) [(.tmp 3), (.const (.int .i64 1)), (.const
    (.int .i64 12))], none⟩, ⟨some 2, .mv (.tmp 4), none⟩]) .ret))
theorem low150 : lowF Tryz.prog [] Tryz.f150 = some (5, lc150.strip, [.tmp 2]) := by kernel_rfl
theorem fn150 : FnOk Tryz.prog 150 5 lc150 [.tmp 2] := ⟨Tryz.call150, [], _, Tryz.func150, low150⟩
/-- moonpool/sonar.isCell -/
def lc151 : LCode :=
  (.seq (.region [⟨some 3, .boxS (.tmp 0), none⟩, ⟨some 6, .mv (.const (.bool false)), none⟩]) (.seq (.region [⟨some 7, .fld 0 (.tmp 3), none⟩, ⟨some 8, .load false 1 (.tmp 7),
    none⟩, ⟨some 9, .mv (.tmp 1), none⟩, ⟨some 10, .bin .sub (.tmp 9) (.const (.int .i64 1)), none⟩, ⟨some 11, .call (.func 84) [(.tmp 8), (.const (.int .i64 0)), (.tmp 10)], none⟩,
    ⟨some 12, .mv (.tmp 11), none⟩, ⟨some 13, .fld 1 (.tmp 3), some (12, true)⟩, ⟨some 14, .load false 1 (.tmp 13), some (12, true)⟩, ⟨some 15, .mv (.tmp 2), some (12, true)⟩, ⟨some
    16, .bin .sub (.tmp 15) (.const (.int .i64 1)), some (12, true)⟩, ⟨some 17, .call (.func 84) [(.tmp 14), (.const (.int .i64 0)), (.tmp 16)], some (12, true)⟩, ⟨some 18, .pick
    (.tmp 12) (.tmp 17) (.const (.bool false)), none⟩, ⟨some 6, .mv (.tmp 18), none⟩]) .ret))
theorem low151 : lowF Tryz.prog [3] Tryz.f151 = some (19, lc151.strip, [.tmp 6]) := by kernel_rfl
theorem fn151 : FnOk Tryz.prog 151 19 lc151 [.tmp 6] := ⟨Tryz.call151, [3], _, Tryz.func151, low151⟩
/-- moonpool/sonar.crossed -/
def lc152 : LCode :=
  (.seq (.region [⟨some 1, .boxS (.tmp 0), none⟩, ⟨some 2, .mv (.const (.slice none 0 0)), none⟩]) (.seq (.regionD [⟨some 9, .fld 2 (.tmp 1), none⟩, ⟨some 10, .fld 0 (.tmp 9),
    none⟩, ⟨some 11, .load false 1 (.tmp 10), none⟩, ⟨some 12, .fld 0 (.tmp 1), none⟩, ⟨some 13, .fld 0 (.tmp 12), none⟩, ⟨some 14, .load false 1 (.tmp 13), none⟩, ⟨some 15, .bin
    .sub (.tmp 11) (.tmp 14), none⟩, ⟨some 16, .fld 2 (.tmp 1), none⟩, ⟨some 17, .fld 1 (.tmp 16), none⟩, ⟨some 18, .load false 1 (.tmp 17), none⟩, ⟨some 19, .fld 0 (.tmp 1), none⟩,
    ⟨some 20, .fld 1 (.tmp 19), none⟩, ⟨some 21, .load false 1 (.tmp 20), none⟩, ⟨some 22, .bin .sub (.tmp 18) (.tmp 21), none⟩, ⟨some 3, .mv (.tmp 15), none⟩, ⟨some 4, .mv (.tmp
    22), none⟩] [0, 1, 3, 0, 8, 24, 63, 0, 128, 384, 0, 1024, 3072, 8064, 127, 32767] [0, 1, 2, 3, 4, 5, 6, 7, 8, 9, 10, 11, 12, 13, 14, 15]) (.seq (.region [⟨some 5, .mv (.const
    (.slice none 0 0)), none⟩]) (.seq (.seq (.region [⟨some 23, .fld 0 (.tmp 1), none⟩, ⟨some 24, .fld 1 (.tmp 23), none⟩, ⟨some 25, .load false 1 (.tmp 24), none⟩, ⟨some 26, .fld 2
    (.tmp 1), none⟩, ⟨some 27, .fld 1 (.tmp 26), none⟩, ⟨some 28, .load false 1 (.tmp 27), none⟩, ⟨some 29, .mm false [(.tmp 25), (.tmp 28)], none⟩, ⟨some 6, .mv (.tmp 29), none⟩])
    (.block 0 (.loop (.seq (.seq (.region [⟨some 30, .mv (.tmp 6), none⟩, ⟨some 31, .fld 0 (.tmp 1), none⟩, ⟨some 32, .fld 1 (.tmp 31), none⟩, ⟨some 33, .load false 1 (.tmp 32),
    none⟩, ⟨some 34, .fld 2 (.tmp 1), none⟩, ⟨some 35, .fld 1 (.tmp 34), none⟩, ⟨some 36, .load false 1 (.tmp 35), none⟩, ⟨some 37, .mm true [(.tmp 33), (.tmp 36)], none⟩, ⟨some 38,
    .bin .leq (.tmp 30) (.tmp 37), none⟩]) (.cond (.tmp 38) .skip (.exit 0))) (.seq (.block 1 (.seq (.region [⟨some 41, .fld 0 (.tmp 1), none⟩, ⟨some 42, .fld 0 (.tmp 41), none⟩,
    ⟨some 43, .load false 1 (.tmp 42), none⟩, ⟨some 44, .fld 2 (.tmp 1), none⟩, ⟨some 45, .fld 0 (.tmp 44), none⟩, ⟨some 46, .load false 1 (.tmp 45), none⟩, ⟨some 47, .mm false
    [(.tmp 43), (.tmp 46)], none⟩, ⟨some 7, .mv (.tmp 47), none⟩]) (.block 2 (.loop (.seq (.seq (.region [⟨some 48, .mv (.tmp 7), none⟩, ⟨some 49, .fld 0 (.tmp 1), none⟩, ⟨some 50,
    .fld 0 (.tmp 49), none⟩, ⟨some 51, .load false 1 (.tmp 50), none⟩, ⟨some 52, .fld 2 (.tmp 1), none⟩, ⟨some 53, .fld 0 (.tmp 52), none⟩, ⟨some 54, .load false 1 (.tmp 53), none⟩,
    ⟨some 55, .mm true [(.tmp 51), (.tmp 54)], none⟩, ⟨some 56, .bin .leq (.tmp 48) (.tmp 55), none⟩]) (.cond (.tmp 56) .skip (.exit 2))) (.seq (.block 3 (.seq (.region [⟨some 59,
    .mv (.tmp 3), none⟩, ⟨some 60, .bin .mul (.tmp 59) (.const (.int .i64 2)), none⟩, ⟨some 61, .mv (.tmp 6), none⟩, ⟨some 62, .fld 0 (.tmp 1), none⟩, ⟨some 63, .fld 1 (.tmp 62),
    none⟩, ⟨some 64, .load false 1 (.tmp 63), none⟩, ⟨some 65, .bin .sub (.tmp 61) (.tmp 64), none⟩, ⟨some 66, .bin .mul (.tmp 60) (.tmp 65), none⟩, ⟨some 67, .mv (.tmp 4), none⟩,
    ⟨some 68, .bin .mul (.tmp 67) (.const (.int .i64 2)), none⟩, ⟨some 69, .mv (.tmp 7), none⟩, ⟨some 70, .fld 0 (.tmp 1), none⟩, ⟨some 71, .fld 0 (.tmp 70), none⟩, ⟨some 72, .load
    false 1 (.tmp 71), none⟩, ⟨some 73, .bin .sub (.tmp 69) (.tmp 72), none⟩, ⟨some 74, .bin .mul (.tmp 68) (.tmp 73), none⟩, ⟨some 75, .bin .sub (.tmp 66) (.tmp 74), none⟩, ⟨some
    8, .mv (.tmp 75), none⟩]) (.seq (.region [⟨some 76, .mv (.tmp 8), none⟩, ⟨some 77, .call (.func 137) [(.tmp 76)], none⟩, ⟨some 78, .mv (.tmp 3), none⟩, ⟨some 79, .call (.func
    137) [(.tmp 78)], none⟩, ⟨some 80, .mv (.tmp 4), none⟩, ⟨some 81, .call (.func 137) [(.tmp 80)], none⟩, ⟨some 82, .bin .add (.tmp 79) (.tmp 81), none⟩, ⟨some 83, .bin .lss (.tmp
    77) (.tmp 82), none⟩, ⟨some 84, .mv (.tmp 83), none⟩, ⟨some 85, .mv (.tmp 3), some (84, false)⟩, ⟨some 86, .bin .eql (.tmp 85) (.const (.int .i64 0)), some (84, false)⟩, ⟨some
    87, .mv (.tmp 86), some (84, false)⟩, ⟨some 88, .mv (.tmp 4), some (87, true)⟩, ⟨some 89, .bin .eql (.tmp 88) (.const (.int .i64 0)), some (87, true)⟩, ⟨some 90, .pick (.tmp 87)
    (.tmp 89) (.const (.bool false)), some (84, false)⟩, ⟨some 91, .pick (.tmp 84) (.const (.bool true)) (.tmp 90), none⟩]) (.cond (.tmp 91) (.region [⟨some 92, .mv (.tmp 5), none⟩,
    ⟨some 93, .mv (.tmp 7), none⟩, ⟨some 94, .mv (.tmp 6), none⟩, ⟨some 95, .build [(.int .i64 0), (.int .i64 0)] [(0, 1, (.tmp 93)), (1, 1, (.tmp 94))], none⟩, ⟨some 96, .lit false
    149 2 [(.tmp 95)], none⟩, ⟨some 97, .append true 149 2 16 (.tmp 92) (.tmp 96), none⟩, ⟨some 5, .mv (.tmp 97), none⟩]) .skip)))) (.region [⟨some 57, .mv (.tmp 7), none⟩, ⟨some
    58, .bin .add (.tmp 57) (.const (.int .i64 1)), none⟩, ⟨some 7, .mv (.tmp 58), none⟩]))))))) (.region [⟨some 39, .mv (.tmp 6), none⟩, ⟨some 40, .bin .add (.tmp 39) (.const (.int
    .i64 1)), none⟩, ⟨some 6, .mv (.tmp 40), none⟩])))))) (.seq (.region [⟨some 98, .mv (.tmp 5), none⟩, ⟨some 2, .mv (.tmp 98), none⟩]) .ret)))))
theorem low152 : lowF Tryz.prog [1, 97] Tryz.f152 = some (99, lc152.strip, [.tmp 2]) := by kernel_rfl
theorem fn152 : FnOk Tryz.prog 152 99 lc152 [.tmp 2] := ⟨Tryz.call152, [1, 97], _, Tryz.func152, low152⟩
/-- slices.BinarySearch[[]int,int] -/
def lc153 : LCode :=
  (.seq (.region [⟨some 4, .mv (.const (.int .i64 0)), none⟩, ⟨some 5, .mv (.const (.bool false)), none⟩]) (.seq (.region [⟨some 10, .mv (.tmp 0), none⟩, ⟨some 11, .len (.tmp 10),
    none⟩, ⟨some 6, .mv (.tmp 11), none⟩]) (.seq (.region [⟨some 12, .mv (.tmp 6), none⟩, ⟨some 7, .mv (.const (.int .i64 0)), none⟩, ⟨some 8, .mv (.tmp 12), none⟩]) (.seq (.block 0
    (.loop (.seq (.seq (.region [⟨some 13, .mv (.tmp 7), none⟩, ⟨some 14, .mv (.tmp 8), none⟩, ⟨some 15, .bin .lss (.tmp 13) (.tmp 14), none⟩]) (.cond (.tmp 15) .skip (.exit 0)))
    (.block 1 (.seq (.region [⟨some 16, .mv (.tmp 7), none⟩, ⟨some 17, .mv (.tmp 8), none⟩, ⟨some 18, .bin .add (.tmp 16) (.tmp 17), none⟩, ⟨some 19, .conv .u64 (.tmp 18), none⟩,
    ⟨some 20, .bin .shr (.tmp 19) (.const (.int .u64 1)), none⟩, ⟨some 21, .conv .i64 (.tmp 20), none⟩, ⟨some 9, .mv (.tmp 21), none⟩]) (.seq (.region [⟨some 22, .mv (.tmp 0),
    none⟩, ⟨some 23, .mv (.tmp 9), none⟩, ⟨some 24, .idx 1 (.tmp 22) (.tmp 23), none⟩, ⟨some 25, .load false 1 (.tmp 24), none⟩, ⟨some 26, .mv (.tmp 1), none⟩, ⟨some 27, .call
    (.func 174) [(.tmp 25), (.tmp 26)], none⟩]) (.cond (.tmp 27) (.region [⟨some 28, .mv (.tmp 9), none⟩, ⟨some 29, .bin .add (.tmp 28) (.const (.int .i64 1)), none⟩, ⟨some 7, .mv
    (.tmp 29), none⟩]) (.region [⟨some 30, .mv (.tmp 9), none⟩, ⟨some 8, .mv (.tmp 30), none⟩])))))))) (.seq (.region [⟨some 31, .mv (.tmp 7), none⟩, ⟨some 32, .mv (.tmp 7), none⟩,
    ⟨some 33, .mv (.tmp 6), none⟩, ⟨some 34, .bin .lss (.tmp 32) (.tmp 33), none⟩, ⟨some 35, .mv (.tmp 34), none⟩, ⟨some 36, .mv (.tmp 0), some (35, true)⟩, ⟨some 37, .mv (.tmp 7),
    some (35, true)⟩, ⟨some 38, .idx 1 (.tmp 36) (.tmp 37), some (35, true)⟩, ⟨some 39, .load false 1 (.tmp 38), some (35, true)⟩, ⟨some 40, .mv (.tmp 1), some (35, true)⟩, ⟨some
    41, .bin .eql (.tmp 39) (.tmp 40), some (35, true)⟩, ⟨some 42, .mv (.tmp 41), some (35, true)⟩, ⟨some 43, .mv (.tmp 0), some (42, false)⟩, ⟨some 44, .mv (.tmp 7), some (42,
    false)⟩, ⟨some 45, .idx 1 (.tmp 43) (.tmp 44), some (42, false)⟩, ⟨some 46, .load false 1 (.tmp 45), some (42, false)⟩, ⟨some 47, .call (.func 175) [(.tmp 46)], some (42,
    false)⟩, ⟨some 48, .mv (.tmp 47), some (42, false)⟩, ⟨some 49, .mv (.tmp 1), some (48, true)⟩, ⟨some 50, .call (.func 175) [(.tmp 49)], some (48, true)⟩, ⟨some 51, .pick (.tmp
    48) (.tmp 50) (.const (.bool false)), some (42, false)⟩, ⟨some 52, .pick (.tmp 42) (.const (.bool true)) (.tmp 51), some (35, true)⟩, ⟨some 53, .pick (.tmp 35) (.tmp 52) (.const
    (.bool false)), none⟩, ⟨some 4, .mv (.tmp 31), none⟩, ⟨some 5, .mv (.tmp 53), none⟩]) .ret)))))
theorem low153 : lowF Tryz.prog [] Tryz.f153 = some (54, lc153.strip, [.tmp 4, .tmp 5]) := by kernel_rfl
theorem fn153 : FnOk Tryz.prog 153 54 lc153 [.tmp 4, .tmp 5] := ⟨Tryz.call153, [], _, Tryz.func153, low153⟩
/-- moonpool/sonar.cell -/
def lc154 : LCode :=
  (.seq (.region [⟨some 2, .boxS (.tmp 0), none⟩, ⟨some 4, .mv (.const (.int .i64 0)), none⟩]) (.seq (.region [⟨some 5, .fld 1 (.tmp 2), none⟩, ⟨some 6, .load false 1 (.tmp 5),
    none⟩, ⟨some 7, .mv (.tmp 1), none⟩, ⟨some 8, .bin .mul (.tmp 6) (.tmp 7), none⟩, ⟨some 9, .fld 0 (.tmp 2), none⟩, ⟨some 10, .load false 1 (.tmp 9), none⟩, ⟨some 11, .bin .add
    (.tmp 8) (.tmp 10), none⟩, ⟨some 4, .mv (.tmp 11), none⟩]) .ret))
theorem low154 : lowF Tryz.prog [2] Tryz.f154 = some (12, lc154.strip, [.tmp 4]) := by kernel_rfl
theorem fn154 : FnOk Tryz.prog 154 12 lc154 [.tmp 4] := ⟨Tryz.call154, [2], _, Tryz.func154, low154⟩
/-- moonpool/sonar.samplesErr -/
def lc158 : LCode :=
  (.seq (.region [⟨some 4, .mv (.const (.int .i64 0)), none⟩]) (.seq (.region [⟨some 6, .mv (.tmp 0), none⟩, ⟨some 7, .call (.func 177) [(.tmp 6), (.func 178)], none⟩, ⟨some 5, .mv
    (.tmp 7), none⟩]) (.seq (.region [⟨some 8, .mv (.tmp 0), none⟩, ⟨some 9, .len (.tmp 8), none⟩, ⟨some 10, .mv (.tmp 1), none⟩, ⟨some 11, .call (.func 81) [(.tmp 9), (.tmp 10)],
    none⟩, ⟨some 12, .mv (.tmp 5), none⟩, ⟨some 13, .un .not (.tmp 12), none⟩, ⟨some 14, .call (.func 85) [(.tmp 13), (.const (.int .i64 2))], none⟩, ⟨some 15, .lit false 30 1
    [(.tmp 11), (.tmp 14)], none⟩, ⟨some 16, .call (.func 71) [(.tmp 15)], none⟩, ⟨some 4, .mv (.tmp 16), none⟩]) .ret)))
theorem low158 : lowF Tryz.prog [] Tryz.f158 = some (17, lc158.strip, [.tmp 4]) := by kernel_rfl
theorem fn158 : FnOk Tryz.prog 158 17 lc158 [.tmp 4] := ⟨Tryz.call158, [], _, Tryz.func158, low158⟩
/-- slices.IndexFunc[[]int,int] -/
def lc159 : LCode :=
  (.seq (.region [⟨some 4, .mv (.const (.int .i64 0)), none⟩]) (.seq (.seq (.region [⟨some 6, .mv (.tmp 0), none⟩, ⟨some 7, .len (.tmp 6), none⟩, ⟨some 8, .mv (.const (.int .i64
    0)), none⟩]) (.block 0 (.loop (.seq (.region [⟨some 9, .bin .lss (.tmp 8) (.tmp 7), none⟩]) (.seq (.cond (.tmp 9) .skip (.exit 0)) (.seq (.block 1 (.seq (.region [⟨some 10, .mv
    (.tmp 8), none⟩, ⟨some 5, .mv (.tmp 10), none⟩]) (.seq (.region [⟨some 11, .mv (.tmp 1), none⟩, ⟨some 12, .mv (.tmp 0), none⟩, ⟨some 13, .mv (.tmp 5), none⟩, ⟨some 14, .idx 1
    (.tmp 12) (.tmp 13), none⟩, ⟨some 15, .load false 1 (.tmp 14), none⟩, ⟨some 16, .call (.tmp 11) [(.tmp 15)], none⟩]) (.cond (.tmp 16) (.seq (.region [⟨some 17, .mv (.tmp 5),
    none⟩, ⟨some 4, .mv (.tmp 17), none⟩]) .ret) .skip)))) (.region [⟨some 18, .bin .add (.tmp 8) (.const (.int .i64 1)), none⟩, ⟨some 8, .mv (.tmp 18), none⟩]))))))) (.seq (.region
    [⟨some 4, .mv (.const (.int .i64 (-1))), none⟩]) .ret)))
theorem low159 : lowF Tryz.prog [] Tryz.f159 = some (19, lc159.strip, [.tmp 4]) := by kernel_rfl
theorem fn159 : FnOk Tryz.prog 159 19 lc159 [.tmp 4] := ⟨Tryz.call159, [], _, Tryz.func159, low159⟩
/-- slices.Index[[]int,int] -/
def lc160 : LCode :=
  (.seq (.region [⟨some 4, .mv (.const (.int .i64 0)), none⟩]) (.seq (.seq (.region [⟨some 6, .mv (.tmp 0), none⟩, ⟨some 7, .len (.tmp 6), none⟩, ⟨some 8, .mv (.const (.int .i64
    0)), none⟩]) (.block 0 (.loop (.seq (.region [⟨some 9, .bin .lss (.tmp 8) (.tmp 7), none⟩]) (.seq (.cond (.tmp 9) .skip (.exit 0)) (.seq (.block 1 (.seq (.region [⟨some 10, .mv
    (.tmp 8), none⟩, ⟨some 5, .mv (.tmp 10), none⟩]) (.seq (.region [⟨some 11, .mv (.tmp 1), none⟩, ⟨some 12, .mv (.tmp 0), none⟩, ⟨some 13, .mv (.tmp 5), none⟩, ⟨some 14, .idx 1
    (.tmp 12) (.tmp 13), none⟩, ⟨some 15, .load false 1 (.tmp 14), none⟩, ⟨some 16, .bin .eql (.tmp 11) (.tmp 15), none⟩]) (.cond (.tmp 16) (.seq (.region [⟨some 17, .mv (.tmp 5),
    none⟩, ⟨some 4, .mv (.tmp 17), none⟩]) .ret) .skip)))) (.region [⟨some 18, .bin .add (.tmp 8) (.const (.int .i64 1)), none⟩, ⟨some 8, .mv (.tmp 18), none⟩]))))))) (.seq (.region
    [⟨some 4, .mv (.const (.int .i64 (-1))), none⟩]) .ret)))
theorem low160 : lowF Tryz.prog [] Tryz.f160 = some (19, lc160.strip, [.tmp 4]) := by kernel_rfl
theorem fn160 : FnOk Tryz.prog 160 19 lc160 [.tmp 4] := ⟨Tryz.call160, [], _, Tryz.func160, low160⟩
/-- cmp.isNaN[int] -/
def lc161 : LCode :=
  (.seq (.region [⟨some 2, .mv (.const (.bool false)), none⟩]) (.seq (.region [⟨some 3, .mv (.tmp 0), none⟩, ⟨some 4, .mv (.tmp 0), none⟩, ⟨some 5, .bin .neq (.tmp 3) (.tmp 4),
    none⟩, ⟨some 2, .mv (.tmp 5), none⟩]) .ret))
theorem low161 : lowF Tryz.prog [] Tryz.f161 = some (6, lc161.strip, [.tmp 2]) := by kernel_rfl
theorem fn161 : FnOk Tryz.prog 161 6 lc161 [.tmp 2] := ⟨Tryz.call161, [], _, Tryz.func161, low161⟩
/-- moonpool/sonar.divisor -/
def lc162 : LCode :=
  (.seq (.region [⟨some 4, .mv (.const (.int .i64 0)), none⟩]) (.seq (.block 0 (.loop (.seq (.seq (.region [⟨some 5, .mv (.tmp 1), none⟩, ⟨some 6, .bin .neq (.tmp 5) (.const (.int
    .i64 0)), none⟩]) (.cond (.tmp 6) .skip (.exit 0))) (.block 1 (.regionD [⟨some 7, .mv (.tmp 1), none⟩, ⟨some 8, .mv (.tmp 0), none⟩, ⟨some 9, .mv (.tmp 1), none⟩, ⟨some 10, .bin
    .rem (.tmp 8) (.tmp 9), none⟩, ⟨some 0, .mv (.tmp 7), none⟩, ⟨some 1, .mv (.tmp 10), none⟩] [0, 0, 0, 6, 3, 31] [0, 1, 2, 3, 4, 5]))))) (.seq (.region [⟨some 11, .mv (.tmp 0),
    none⟩, ⟨some 4, .mv (.tmp 11), none⟩]) .ret)))
theorem low162 : lowF Tryz.prog [] Tryz.f162 = some (12, lc162.strip, [.tmp 4]) := by kernel_rfl
theorem fn162 : FnOk Tryz.prog 162 12 lc162 [.tmp 4] := ⟨Tryz.call162, [], _, Tryz.func162, low162⟩
/-- moonpool/moonpoolbase.trimmed -/
def lc163 : LCode :=
  (.seq (.region [⟨some 2, .mv (.const (.slice none 0 0)), none⟩]) (.seq (.region [⟨some 4, .mv (.tmp 0), none⟩, ⟨some 5, .len (.tmp 4), none⟩, ⟨some 3, .mv (.tmp 5), none⟩]) (.seq
    (.block 0 (.loop (.seq (.seq (.region [⟨some 6, .mv (.tmp 3), none⟩, ⟨some 7, .bin .gtr (.tmp 6) (.const (.int .i64 0)), none⟩, ⟨some 8, .mv (.tmp 7), none⟩, ⟨some 9, .mv (.tmp
    0), some (8, true)⟩, ⟨some 10, .mv (.tmp 3), some (8, true)⟩, ⟨some 11, .bin .sub (.tmp 10) (.const (.int .i64 1)), some (8, true)⟩, ⟨some 12, .idx 1 (.tmp 9) (.tmp 11), some
    (8, true)⟩, ⟨some 13, .load false 1 (.tmp 12), some (8, true)⟩, ⟨some 14, .bin .eql (.tmp 13) (.const (.int .i64 0)), some (8, true)⟩, ⟨some 15, .pick (.tmp 8) (.tmp 14) (.const
    (.bool false)), none⟩]) (.cond (.tmp 15) .skip (.exit 0))) (.block 1 (.region [⟨some 16, .mv (.tmp 3), none⟩, ⟨some 17, .bin .sub (.tmp 16) (.const (.int .i64 1)), none⟩, ⟨some
    3, .mv (.tmp 17), none⟩]))))) (.seq (.region [⟨some 18, .mv (.tmp 0), none⟩, ⟨some 19, .mv (.tmp 3), none⟩, ⟨some 20, .slc 1 (.tmp 18) none (some (.tmp 19)), none⟩, ⟨some 2, .mv
    (.tmp 20), none⟩]) .ret))))
theorem low163 : lowF Tryz.prog [] Tryz.f163 = some (21, lc163.strip, [.tmp 2]) := by kernel_rfl
theorem fn163 : FnOk Tryz.prog 163 21 lc163 [.tmp 2] := ⟨Tryz.call163, [], _, Tryz.func163, low163⟩
/-- moonpool/moonpoolbase.cmpDigits -/
def lc164 : LCode :=
  (.seq (.region [⟨some 4, .mv (.const (.int .i64 0)), none⟩]) (.seq (.seq (.region [⟨some 6, .mv (.tmp 0), none⟩, ⟨some 7, .len (.tmp 6), none⟩, ⟨some 8, .mv (.tmp 1), none⟩, ⟨some
    9, .len (.tmp 8), none⟩, ⟨some 10, .bin .neq (.tmp 7) (.tmp 9), none⟩]) (.cond (.tmp 10) (.seq (.seq (.region [⟨some 11, .mv (.tmp 0), none⟩, ⟨some 12, .len (.tmp 11), none⟩,
    ⟨some 13, .mv (.tmp 1), none⟩, ⟨some 14, .len (.tmp 13), none⟩, ⟨some 15, .bin .lss (.tmp 12) (.tmp 14), none⟩]) (.cond (.tmp 15) (.seq (.region [⟨some 4, .mv (.const (.int .i64
    (-1))), none⟩]) .ret) .skip)) (.seq (.region [⟨some 4, .mv (.const (.int .i64 1)), none⟩]) .ret)) .skip)) (.seq (.seq (.region [⟨some 16, .mv (.tmp 0), none⟩, ⟨some 17, .len
    (.tmp 16), none⟩, ⟨some 18, .bin .sub (.tmp 17) (.const (.int .i64 1)), none⟩, ⟨some 5, .mv (.tmp 18), none⟩]) (.block 0 (.loop (.seq (.seq (.region [⟨some 19, .mv (.tmp 5),
    none⟩, ⟨some 20, .bin .geq (.tmp 19) (.const (.int .i64 0)), none⟩]) (.cond (.tmp 20) .skip (.exit 0))) (.seq (.block 1 (.seq (.seq (.regionD [⟨some 23, .mv (.tmp 0), none⟩,
    ⟨some 24, .mv (.tmp 5), none⟩, ⟨some 25, .idx 1 (.tmp 23) (.tmp 24), none⟩, ⟨some 26, .load false 1 (.tmp 25), none⟩, ⟨some 27, .mv (.tmp 1), none⟩, ⟨some 28, .mv (.tmp 5),
    none⟩, ⟨some 29, .idx 1 (.tmp 27) (.tmp 28), none⟩, ⟨some 30, .load false 1 (.tmp 29), none⟩, ⟨some 31, .bin .lss (.tmp 26) (.tmp 30), none⟩] [0, 0, 3, 7, 0, 0, 48, 112, 255]
    [0, 1, 2, 3, 4, 5, 6, 7, 8]) (.cond (.tmp 31) (.seq (.region [⟨some 4, .mv (.const (.int .i64 (-1))), none⟩]) .ret) .skip)) (.seq (.regionD [⟨some 32, .mv (.tmp 0), none⟩, ⟨some
    33, .mv (.tmp 5), none⟩, ⟨some 34, .idx 1 (.tmp 32) (.tmp 33), none⟩, ⟨some 35, .load false 1 (.tmp 34), none⟩, ⟨some 36, .mv (.tmp 1), none⟩, ⟨some 37, .mv (.tmp 5), none⟩,
    ⟨some 38, .idx 1 (.tmp 36) (.tmp 37), none⟩, ⟨some 39, .load false 1 (.tmp 38), none⟩, ⟨some 40, .bin .gtr (.tmp 35) (.tmp 39), none⟩] [0, 0, 3, 7, 0, 0, 48, 112, 255] [0, 1, 2,
    3, 4, 5, 6, 7, 8]) (.cond (.tmp 40) (.seq (.region [⟨some 4, .mv (.const (.int .i64 1)), none⟩]) .ret) .skip)))) (.region [⟨some 21, .mv (.tmp 5), none⟩, ⟨some 22, .bin .sub
    (.tmp 21) (.const (.int .i64 1)), none⟩, ⟨some 5, .mv (.tmp 22), none⟩])))))) (.seq (.region [⟨some 4, .mv (.const (.int .i64 0)), none⟩]) .ret))))
theorem low164 : lowF Tryz.prog [] Tryz.f164 = some (41, lc164.strip, [.tmp 4]) := by kernel_rfl
theorem fn164 : FnOk Tryz.prog 164 41 lc164 [.tmp 4] := ⟨Tryz.call164, [], _, Tryz.func164, low164⟩
/-- moonpool/moonpoolbase.WideMul -/
def lc165 : LCode :=
  (.seq (.region [⟨some 2, .boxS (.tmp 0), none⟩, ⟨some 3, .boxS (.tmp 1), none⟩, ⟨some 4, .alloc [(.int .i64 0), (.slice none 0 0)], none⟩]) (.seq (.region [⟨some 10, .fld 1 (.tmp
    2), none⟩, ⟨some 11, .load false 1 (.tmp 10), none⟩, ⟨some 12, .len (.tmp 11), none⟩, ⟨some 13, .fld 1 (.tmp 3), none⟩, ⟨some 14, .load false 1 (.tmp 13), none⟩, ⟨some 15, .len
    (.tmp 14), none⟩, ⟨some 16, .bin .add (.tmp 12) (.tmp 15), none⟩, ⟨some 17, .bin .add (.tmp 16) (.const (.int .i64 1)), none⟩, ⟨some 18, .make true 3 1 8 [(.int .i64 0)] (.tmp
    17), none⟩, ⟨some 5, .mv (.tmp 18), none⟩]) (.seq (.seq (.region [⟨some 6, .mv (.const (.int .i64 0)), none⟩]) (.block 0 (.loop (.seq (.seq (.region [⟨some 19, .mv (.tmp 6),
    none⟩, ⟨some 20, .fld 1 (.tmp 2), none⟩, ⟨some 21, .load false 1 (.tmp 20), none⟩, ⟨some 22, .len (.tmp 21), none⟩, ⟨some 23, .bin .lss (.tmp 19) (.tmp 22), none⟩]) (.cond (.tmp
    23) .skip (.exit 0))) (.seq (.block 1 (.seq (.region [⟨some 7, .mv (.const (.int .i64 0)), none⟩]) (.seq (.seq (.region [⟨some 8, .mv (.const (.int .i64 0)), none⟩]) (.block 2
    (.loop (.seq (.seq (.region [⟨some 26, .mv (.tmp 8), none⟩, ⟨some 27, .fld 1 (.tmp 3), none⟩, ⟨some 28, .load false 1 (.tmp 27), none⟩, ⟨some 29, .len (.tmp 28), none⟩, ⟨some
    30, .bin .lss (.tmp 26) (.tmp 29), none⟩]) (.cond (.tmp 30) .skip (.exit 2))) (.seq (.block 3 (.seq (.regionD [⟨some 33, .mv (.tmp 5), none⟩, ⟨some 34, .mv (.tmp 6), none⟩,
    ⟨some 35, .mv (.tmp 8), none⟩, ⟨some 36, .bin .add (.tmp 34) (.tmp 35), none⟩, ⟨some 37, .idx 1 (.tmp 33) (.tmp 36), none⟩, ⟨some 38, .load false 1 (.tmp 37), none⟩, ⟨some 39,
    .fld 1 (.tmp 2), none⟩, ⟨some 40, .load false 1 (.tmp 39), none⟩, ⟨some 41, .mv (.tmp 6), none⟩, ⟨some 42, .idx 1 (.tmp 40) (.tmp 41), none⟩, ⟨some 43, .load false 1 (.tmp 42),
    none⟩, ⟨some 44, .fld 1 (.tmp 3), none⟩, ⟨some 45, .load false 1 (.tmp 44), none⟩, ⟨some 46, .mv (.tmp 8), none⟩, ⟨some 47, .idx 1 (.tmp 45) (.tmp 46), none⟩, ⟨some 48, .load
    false 1 (.tmp 47), none⟩, ⟨some 49, .bin .mul (.tmp 43) (.tmp 48), none⟩, ⟨some 50, .bin .add (.tmp 38) (.tmp 49), none⟩, ⟨some 51, .mv (.tmp 7), none⟩, ⟨some 52, .bin .add
    (.tmp 50) (.tmp 51), none⟩, ⟨some 9, .mv (.tmp 52), none⟩] [0, 0, 0, 6, 15, 31, 0, 64, 0, 448, 960, 0, 2048, 0, 14336, 30720, 65472, 131071, 0, 524287, 1048575] [0, 1, 2, 3, 4,
    5, 6, 7, 8, 9, 10, 11, 12, 13, 14, 15, 16, 17, 18, 19, 20]) (.region [⟨some 53, .mv (.tmp 5), none⟩, ⟨some 54, .mv (.tmp 6), none⟩, ⟨some 55, .mv (.tmp 8), none⟩, ⟨some 56, .bin
    .add (.tmp 54) (.tmp 55), none⟩, ⟨some 57, .mv (.tmp 9), none⟩, ⟨some 58, .bin .rem (.tmp 57) (.const (.int .i64 1000000000)), none⟩, ⟨some 59, .mv (.tmp 9), none⟩, ⟨some 60,
    .bin .quo (.tmp 59) (.const (.int .i64 1000000000)), none⟩, ⟨some 61, .idx 1 (.tmp 53) (.tmp 56), none⟩, ⟨none, .store 1 (.tmp 61) (.tmp 58), none⟩, ⟨some 7, .mv (.tmp 60),
    none⟩]))) (.region [⟨some 31, .mv (.tmp 8), none⟩, ⟨some 32, .bin .add (.tmp 31) (.const (.int .i64 1)), none⟩, ⟨some 8, .mv (.tmp 32), none⟩])))))) (.regionD [⟨some 62, .mv
    (.tmp 5), none⟩, ⟨some 63, .mv (.tmp 6), none⟩, ⟨some 64, .fld 1 (.tmp 3), none⟩, ⟨some 65, .load false 1 (.tmp 64), none⟩, ⟨some 66, .len (.tmp 65), none⟩, ⟨some 67, .bin .add
    (.tmp 63) (.tmp 66), none⟩, ⟨some 68, .mv (.tmp 5), none⟩, ⟨some 69, .mv (.tmp 6), none⟩, ⟨some 70, .fld 1 (.tmp 3), none⟩, ⟨some 71, .load false 1 (.tmp 70), none⟩, ⟨some 72,
    .len (.tmp 71), none⟩, ⟨some 73, .bin .add (.tmp 69) (.tmp 72), none⟩, ⟨some 74, .idx 1 (.tmp 68) (.tmp 73), none⟩, ⟨some 75, .load false 1 (.tmp 74), none⟩, ⟨some 76, .mv (.tmp
    7), none⟩, ⟨some 77, .bin .add (.tmp 75) (.tmp 76), none⟩, ⟨some 78, .idx 1 (.tmp 62) (.tmp 67), none⟩, ⟨none, .store 1 (.tmp 78) (.tmp 77), none⟩] [0, 0, 0, 4, 12, 30, 0, 0, 0,
    256, 768, 1920, 4032, 8128, 0, 32704, 65535, 131071] [0, 1, 2, 3, 4, 5, 6, 7, 8, 9, 10, 11, 12, 13, 14, 15, 16, 17])))) (.region [⟨some 24, .mv (.tmp 6), none⟩, ⟨some 25, .bin
    .add (.tmp 24) (.const (.int .i64 1)), none⟩, ⟨some 6, .mv (.tmp 25), none⟩])))))) (.seq (.region [⟨some 79, .fld 0 (.tmp 2), none⟩, ⟨some 80, .load false 1 (.tmp 79), none⟩,
    ⟨some 81, .fld 0 (.tmp 3), none⟩, ⟨some 82, .load false 1 (.tmp 81), none⟩, ⟨some 83, .bin .mul (.tmp 80) (.tmp 82), none⟩, ⟨some 84, .mv (.tmp 5), none⟩, ⟨some 85, .call (.func
    166) [(.tmp 83), (.tmp 84)], none⟩, ⟨none, .store 2 (.tmp 4) (.tmp 85), none⟩]) .ret))))
theorem low165 : lowF Tryz.prog [2, 3, 18] Tryz.f165 = some (86, lc165.strip, [.cell 4 true 2]) := by kernel_rfl
theorem fn165 : FnOk Tryz.prog 165 86 lc165 [.cell 4 true 2] := ⟨Tryz.call165, [2, 3, 18], _, Tryz.func165, low165⟩
/-- moonpool/moonpoolbase.wideOf -/
def lc166 : LCode :=
  (.seq (.region [⟨some 4, .alloc [(.int .i64 0), (.slice none 0 0)], none⟩]) (.seq (.region [⟨some 5, .mv (.tmp 1), none⟩, ⟨some 6, .call (.func 163) [(.tmp 5)], none⟩, ⟨some 1,
    .mv (.tmp 6), none⟩]) (.seq (.seq (.region [⟨some 7, .mv (.tmp 1), none⟩, ⟨some 8, .len (.tmp 7), none⟩, ⟨some 9, .bin .eql (.tmp 8) (.const (.int .i64 0)), none⟩]) (.cond (.tmp
    9) (.region [⟨some 0, .mv (.const (.int .i64 0)), none⟩]) .skip)) (.seq (.region [⟨some 10, .mv (.tmp 0), none⟩, ⟨some 11, .mv (.tmp 1), none⟩, ⟨some 12, .build [(.int .i64 0),
    (.slice none 0 0)] [(0, 1, (.tmp 10)), (1, 1, (.tmp 11))], none⟩, ⟨none, .store 2 (.tmp 4) (.tmp 12), none⟩]) .ret))))
theorem low166 : lowF Tryz.prog [] Tryz.f166 = some (13, lc166.strip, [.cell 4 true 2]) := by kernel_rfl
theorem fn166 : FnOk Tryz.prog 166 13 lc166 [.cell 4 true 2] := ⟨Tryz.call166, [], _, Tryz.func166, low166⟩
/-- moonpool/moonpoolbase.WideOf -/
def lc167 : LCode :=
  (.seq (.region [⟨some 2, .alloc [(.int .i64 0), (.slice none 0 0)], none⟩]) (.seq (.region [⟨some 3, .mv (.const (.int .i64 1)), none⟩]) (.seq (.seq (.region [⟨some 5, .mv (.tmp
    0), none⟩, ⟨some 6, .bin .lss (.tmp 5) (.const (.int .i64 0)), none⟩]) (.cond (.tmp 6) (.region [⟨some 3, .mv (.const (.int .i64 (-1))), none⟩]) .skip)) (.seq (.region [⟨some 4,
    .mv (.const (.slice none 0 0)), none⟩]) (.seq (.block 0 (.loop (.seq (.seq (.region [⟨some 7, .mv (.tmp 0), none⟩, ⟨some 8, .bin .neq (.tmp 7) (.const (.int .i64 0)), none⟩])
    (.cond (.tmp 8) .skip (.exit 0))) (.block 1 (.seq (.region [⟨some 9, .mv (.tmp 4), none⟩, ⟨some 10, .mv (.tmp 0), none⟩, ⟨some 11, .bin .rem (.tmp 10) (.const (.int .i64
    1000000000)), none⟩, ⟨some 12, .call (.func 90) [(.tmp 11)], none⟩, ⟨some 13, .lit false 3 1 [(.tmp 12)], none⟩, ⟨some 14, .append true 3 1 8 (.tmp 9) (.tmp 13), none⟩, ⟨some 4,
    .mv (.tmp 14), none⟩]) (.region [⟨some 15, .mv (.tmp 0), none⟩, ⟨some 16, .bin .quo (.tmp 15) (.const (.int .i64 1000000000)), none⟩, ⟨some 0, .mv (.tmp 16), none⟩])))))) (.seq
    (.region [⟨some 17, .mv (.tmp 3), none⟩, ⟨some 18, .mv (.tmp 4), none⟩, ⟨some 19, .call (.func 166) [(.tmp 17), (.tmp 18)], none⟩, ⟨none, .store 2 (.tmp 2) (.tmp 19), none⟩])
    .ret))))))
theorem low167 : lowF Tryz.prog [14] Tryz.f167 = some (20, lc167.strip, [.cell 2 true 2]) := by kernel_rfl
theorem fn167 : FnOk Tryz.prog 167 20 lc167 [.cell 2 true 2] := ⟨Tryz.call167, [14], _, Tryz.func167, low167⟩
/-- moonpool/moonpoolbase.subDigits -/
def lc168 : LCode :=
  (.seq (.region [⟨some 4, .mv (.const (.slice none 0 0)), none⟩]) (.seq (.region [⟨some 5, .mv (.const (.slice none 0 0)), none⟩]) (.seq (.region [⟨some 6, .mv (.const (.int .i64
    0)), none⟩]) (.seq (.seq (.region [⟨some 7, .mv (.const (.int .i64 0)), none⟩]) (.block 0 (.loop (.seq (.seq (.region [⟨some 9, .mv (.tmp 7), none⟩, ⟨some 10, .mv (.tmp 0),
    none⟩, ⟨some 11, .len (.tmp 10), none⟩, ⟨some 12, .bin .lss (.tmp 9) (.tmp 11), none⟩]) (.cond (.tmp 12) .skip (.exit 0))) (.seq (.block 1 (.seq (.regionD [⟨some 15, .mv (.tmp
    0), none⟩, ⟨some 16, .mv (.tmp 7), none⟩, ⟨some 17, .idx 1 (.tmp 15) (.tmp 16), none⟩, ⟨some 18, .load false 1 (.tmp 17), none⟩, ⟨some 19, .mv (.tmp 1), none⟩, ⟨some 20, .mv
    (.tmp 7), none⟩, ⟨some 21, .call (.func 179) [(.tmp 19), (.tmp 20)], none⟩, ⟨some 22, .bin .sub (.tmp 18) (.tmp 21), none⟩, ⟨some 23, .mv (.tmp 6), none⟩, ⟨some 24, .bin .sub
    (.tmp 22) (.tmp 23), none⟩, ⟨some 8, .mv (.tmp 24), none⟩] [0, 0, 3, 7, 0, 0, 48, 127, 0, 511, 1023] [0, 1, 2, 3, 4, 5, 6, 7, 8, 9, 10]) (.seq (.region [⟨some 6, .mv (.const
    (.int .i64 0)), none⟩]) (.seq (.seq (.region [⟨some 25, .mv (.tmp 8), none⟩, ⟨some 26, .bin .lss (.tmp 25) (.const (.int .i64 0)), none⟩]) (.cond (.tmp 26) (.region [⟨some 27,
    .mv (.tmp 8), none⟩, ⟨some 28, .bin .add (.tmp 27) (.const (.int .i64 1000000000)), none⟩, ⟨some 8, .mv (.tmp 28), none⟩, ⟨some 6, .mv (.const (.int .i64 1)), none⟩]) .skip))
    (.region [⟨some 29, .mv (.tmp 5), none⟩, ⟨some 30, .mv (.tmp 8), none⟩, ⟨some 31, .lit false 3 1 [(.tmp 30)], none⟩, ⟨some 32, .append true 3 1 8 (.tmp 29) (.tmp 31), none⟩,
    ⟨some 5, .mv (.tmp 32), none⟩]))))) (.region [⟨some 13, .mv (.tmp 7), none⟩, ⟨some 14, .bin .add (.tmp 13) (.const (.int .i64 1)), none⟩, ⟨some 7, .mv (.tmp 14), none⟩]))))))
    (.seq (.region [⟨some 33, .mv (.tmp 5), none⟩, ⟨some 34, .call (.func 163) [(.tmp 33)], none⟩, ⟨some 4, .mv (.tmp 34), none⟩]) .ret)))))
theorem low168 : lowF Tryz.prog [32] Tryz.f168 = some (35, lc168.strip, [.tmp 4]) := by kernel_rfl
theorem fn168 : FnOk Tryz.prog 168 35 lc168 [.tmp 4] := ⟨Tryz.call168, [32], _, Tryz.func168, low168⟩
/-- moonpool/moonpoolbase.WideSub -/
def lc169 : LCode :=
  (.seq (.region [⟨some 2, .boxS (.tmp 0), none⟩, ⟨some 3, .boxS (.tmp 1), none⟩, ⟨some 4, .alloc [(.int .i64 0), (.slice none 0 0)], none⟩]) (.seq (.regionD [⟨some 5, .load true 2
    (.tmp 2), none⟩, ⟨some 6, .load true 2 (.tmp 3), none⟩, ⟨some 7, .call (.func 149) [(.tmp 6)], none⟩, ⟨some 8, .call (.func 172) [(.tmp 5), (.tmp 7)], none⟩, ⟨none, .store 2
    (.tmp 4) (.tmp 8), none⟩] [0, 0, 2, 7, 15] [0, 1, 2, 3, 4]) .ret))
theorem low169 : lowF Tryz.prog [2, 3] Tryz.f169 = some (9, lc169.strip, [.cell 4 true 2]) := by kernel_rfl
theorem fn169 : FnOk Tryz.prog 169 9 lc169 [.cell 4 true 2] := ⟨Tryz.call169, [2, 3], _, Tryz.func169, low169⟩
/-- moonpool/moonpoolbase.RatioMake -/
def lc170 : LCode :=
  (.seq (.region [⟨some 2, .box (.tmp 0), none⟩, ⟨some 3, .box (.tmp 1), none⟩, ⟨some 4, .alloc [(.int .i64 0), (.slice none 0 0), (.int .i64 0), (.slice none 0 0)], none⟩]) (.seq
    (.seq (.region [⟨some 6, .load true 2 (.tmp 3), none⟩, ⟨some 7, .call (.func 180) [(.tmp 6)], none⟩, ⟨some 8, .bin .lss (.tmp 7) (.const (.int .i64 0)), none⟩]) (.cond (.tmp 8)
    (.regionD [⟨some 9, .load true 2 (.tmp 2), none⟩, ⟨some 10, .call (.func 149) [(.tmp 9)], none⟩, ⟨some 11, .load true 2 (.tmp 3), none⟩, ⟨some 12, .call (.func 149) [(.tmp 11)],
    none⟩, ⟨none, .store 2 (.tmp 2) (.tmp 10), none⟩, ⟨none, .store 2 (.tmp 3) (.tmp 12), none⟩] [0, 1, 0, 7, 15, 31] [0, 1, 2, 3, 4, 5]) .skip)) (.seq (.region [⟨some 13, .load
    true 2 (.tmp 2), none⟩, ⟨some 14, .load true 2 (.tmp 3), none⟩, ⟨some 15, .call (.func 181) [(.tmp 13), (.tmp 14)], none⟩, ⟨some 5, .alloc [(.int .i64 0), (.slice none 0 0)],
    none⟩, ⟨none, .store 2 (.tmp 5) (.tmp 15), none⟩]) (.seq (.seq (.regionD [⟨some 16, .load true 2 (.tmp 5), none⟩, ⟨some 17, .call (.func 167) [(.const (.int .i64 1))], none⟩,
    ⟨some 18, .call (.func 171) [(.tmp 16), (.tmp 17)], none⟩, ⟨some 19, .bin .eql (.tmp 18) (.const (.int .i64 0)), none⟩] [0, 0, 3, 7] [0, 1, 2, 3]) (.cond (.tmp 19) (.seq
    (.region [⟨some 20, .load true 2 (.tmp 2), none⟩, ⟨some 21, .load true 2 (.tmp 3), none⟩, ⟨some 22, .build [(.int .i64 0), (.slice none 0 0), (.int .i64 0), (.slice none 0 0)]
    [(0, 2, (.tmp 20)), (2, 2, (.tmp 21))], none⟩, ⟨none, .store 4 (.tmp 4) (.tmp 22), none⟩]) .ret) .skip)) (.seq (.regionD [⟨some 23, .load true 2 (.tmp 2), none⟩, ⟨some 24, .load
    true 2 (.tmp 5), none⟩, ⟨some 25, .call (.func 141) [(.tmp 23), (.tmp 24)], none⟩, ⟨some 26, .load true 2 (.tmp 3), none⟩, ⟨some 27, .load true 2 (.tmp 5), none⟩, ⟨some 28,
    .call (.func 141) [(.tmp 26), (.tmp 27)], none⟩, ⟨some 29, .build [(.int .i64 0), (.slice none 0 0), (.int .i64 0), (.slice none 0 0)] [(0, 2, (.tmp 25)), (2, 2, (.tmp 28))],
    none⟩, ⟨none, .store 4 (.tmp 4) (.tmp 29), none⟩] [0, 0, 3, 0, 0, 31, 63, 127] [0, 1, 2, 3, 4, 5, 6, 7]) .ret)))))
theorem low170 : lowF Tryz.prog [] Tryz.f170 = some (30, lc170.strip, [.cell 4 true 4]) := by kernel_rfl
theorem fn170 : FnOk Tryz.prog 170 30 lc170 [.cell 4 true 4] := ⟨Tryz.call170, [], _, Tryz.func170, low170⟩
/-- moonpool/moonpoolbase.WideCmp -/
def lc171 : LCode :=
  (.seq (.region [⟨some 2, .boxS (.tmp 0), none⟩, ⟨some 3, .boxS (.tmp 1), none⟩, ⟨some 4, .mv (.const (.int .i64 0)), none⟩]) (.seq (.region [⟨some 5, .load true 2 (.tmp 2), none⟩,
    ⟨some 6, .load true 2 (.tmp 3), none⟩, ⟨some 7, .call (.func 169) [(.tmp 5), (.tmp 6)], none⟩, ⟨some 8, .part false 0 1 (.tmp 7), none⟩, ⟨some 4, .mv (.tmp 8), none⟩]) .ret))
theorem low171 : lowF Tryz.prog [2, 3] Tryz.f171 = some (9, lc171.strip, [.tmp 4]) := by kernel_rfl
theorem fn171 : FnOk Tryz.prog 171 9 lc171 [.tmp 4] := ⟨Tryz.call171, [2, 3], _, Tryz.func171, low171⟩
/-- moonpool/moonpoolbase.WideAdd -/
def lc172 : LCode :=
  (.seq (.region [⟨some 2, .boxS (.tmp 0), none⟩, ⟨some 3, .boxS (.tmp 1), none⟩, ⟨some 4, .alloc [(.int .i64 0), (.slice none 0 0)], none⟩]) (.seq (.seq (.region [⟨some 6, .fld 0
    (.tmp 2), none⟩, ⟨some 7, .load false 1 (.tmp 6), none⟩, ⟨some 8, .bin .eql (.tmp 7) (.const (.int .i64 0)), none⟩]) (.cond (.tmp 8) (.seq (.region [⟨some 9, .load true 2 (.tmp
    3), none⟩, ⟨none, .store 2 (.tmp 4) (.tmp 9), none⟩]) .ret) .skip)) (.seq (.seq (.region [⟨some 10, .fld 0 (.tmp 3), none⟩, ⟨some 11, .load false 1 (.tmp 10), none⟩, ⟨some 12,
    .bin .eql (.tmp 11) (.const (.int .i64 0)), none⟩]) (.cond (.tmp 12) (.seq (.region [⟨some 13, .load true 2 (.tmp 2), none⟩, ⟨none, .store 2 (.tmp 4) (.tmp 13), none⟩]) .ret)
    .skip)) (.seq (.seq (.region [⟨some 14, .fld 0 (.tmp 2), none⟩, ⟨some 15, .load false 1 (.tmp 14), none⟩, ⟨some 16, .fld 0 (.tmp 3), none⟩, ⟨some 17, .load false 1 (.tmp 16),
    none⟩, ⟨some 18, .bin .eql (.tmp 15) (.tmp 17), none⟩]) (.cond (.tmp 18) (.seq (.regionD [⟨some 19, .fld 0 (.tmp 2), none⟩, ⟨some 20, .load false 1 (.tmp 19), none⟩, ⟨some 21,
    .fld 1 (.tmp 2), none⟩, ⟨some 22, .load false 1 (.tmp 21), none⟩, ⟨some 23, .fld 1 (.tmp 3), none⟩, ⟨some 24, .load false 1 (.tmp 23), none⟩, ⟨some 25, .call (.func 182) [(.tmp
    22), (.tmp 24)], none⟩, ⟨some 26, .call (.func 166) [(.tmp 20), (.tmp 25)], none⟩, ⟨none, .store 2 (.tmp 4) (.tmp 26), none⟩] [0, 1, 0, 4, 0, 16, 60, 127, 255] [0, 1, 2, 3, 4,
    5, 6, 7, 8]) .ret) .skip)) (.seq (.region [⟨some 27, .fld 1 (.tmp 2), none⟩, ⟨some 28, .load false 1 (.tmp 27), none⟩, ⟨some 29, .fld 1 (.tmp 3), none⟩, ⟨some 30, .load false 1
    (.tmp 29), none⟩, ⟨some 31, .call (.func 164) [(.tmp 28), (.tmp 30)], none⟩, ⟨some 5, .mv (.tmp 31), none⟩]) (.seq (.seq (.region [⟨some 32, .mv (.tmp 5), none⟩, ⟨some 33, .bin
    .eql (.tmp 32) (.const (.int .i64 0)), none⟩]) (.cond (.tmp 33) (.seq (.region [⟨some 34, .build [(.int .i64 0), (.slice none 0 0)] [], none⟩, ⟨none, .store 2 (.tmp 4) (.tmp
    34), none⟩]) .ret) .skip)) (.seq (.seq (.region [⟨some 35, .mv (.tmp 5), none⟩, ⟨some 36, .bin .gtr (.tmp 35) (.const (.int .i64 0)), none⟩]) (.cond (.tmp 36) (.seq (.regionD
    [⟨some 37, .fld 0 (.tmp 2), none⟩, ⟨some 38, .load false 1 (.tmp 37), none⟩, ⟨some 39, .fld 1 (.tmp 2), none⟩, ⟨some 40, .load false 1 (.tmp 39), none⟩, ⟨some 41, .fld 1 (.tmp
    3), none⟩, ⟨some 42, .load false 1 (.tmp 41), none⟩, ⟨some 43, .call (.func 168) [(.tmp 40), (.tmp 42)], none⟩, ⟨some 44, .call (.func 166) [(.tmp 38), (.tmp 43)], none⟩, ⟨none,
    .store 2 (.tmp 4) (.tmp 44), none⟩] [0, 1, 0, 4, 0, 16, 60, 127, 255] [0, 1, 2, 3, 4, 5, 6, 7, 8]) .ret) .skip)) (.seq (.regionD [⟨some 45, .fld 0 (.tmp 3), none⟩, ⟨some 46,
    .load false 1 (.tmp 45), none⟩, ⟨some 47, .fld 1 (.tmp 3), none⟩, ⟨some 48, .load false 1 (.tmp 47), none⟩, ⟨some 49, .fld 1 (.tmp 2), none⟩, ⟨some 50, .load false 1 (.tmp 49),
    none⟩, ⟨some 51, .call (.func 168) [(.tmp 48), (.tmp 50)], none⟩, ⟨some 52, .call (.func 166) [(.tmp 46), (.tmp 51)], none⟩, ⟨none, .store 2 (.tmp 4) (.tmp 52), none⟩] [0, 1, 0,
    4, 0, 16, 60, 127, 255] [0, 1, 2, 3, 4, 5, 6, 7, 8]) .ret))))))))
theorem low172 : lowF Tryz.prog [2, 3] Tryz.f172 = some (53, lc172.strip, [.cell 4 true 2]) := by kernel_rfl
theorem fn172 : FnOk Tryz.prog 172 53 lc172 [.cell 4 true 2] := ⟨Tryz.call172, [2, 3], _, Tryz.func172, low172⟩
/-- moonpool/moonpoolbase.RatioNeg -/
def lc173 : LCode :=
  (.seq (.region [⟨some 1, .boxS (.tmp 0), none⟩, ⟨some 2, .alloc [(.int .i64 0), (.slice none 0 0), (.int .i64 0), (.slice none 0 0)], none⟩]) (.seq (.regionD [⟨some 3, .fld 0
    (.tmp 1), none⟩, ⟨some 4, .load true 2 (.tmp 3), none⟩, ⟨some 5, .call (.func 149) [(.tmp 4)], none⟩, ⟨some 6, .fld 2 (.tmp 1), none⟩, ⟨some 7, .load true 2 (.tmp 6), none⟩,
    ⟨some 8, .build [(.int .i64 0), (.slice none 0 0), (.int .i64 0), (.slice none 0 0)] [(0, 2, (.tmp 5)), (2, 2, (.tmp 7))], none⟩, ⟨none, .store 4 (.tmp 2) (.tmp 8), none⟩] [0,
    1, 3, 0, 8, 31, 63] [0, 1, 2, 3, 4, 5, 6]) .ret))
theorem low173 : lowF Tryz.prog [1] Tryz.f173 = some (9, lc173.strip, [.cell 2 true 4]) := by kernel_rfl
theorem fn173 : FnOk Tryz.prog 173 9 lc173 [.cell 2 true 4] := ⟨Tryz.call173, [1], _, Tryz.func173, low173⟩
/-- cmp.Less[int] -/
def lc174 : LCode :=
  (.seq (.region [⟨some 4, .mv (.const (.bool false)), none⟩]) (.seq (.region [⟨some 5, .mv (.tmp 0), none⟩, ⟨some 6, .call (.func 161) [(.tmp 5)], none⟩, ⟨some 7, .mv (.tmp 6),
    none⟩, ⟨some 8, .mv (.tmp 1), some (7, true)⟩, ⟨some 9, .call (.func 161) [(.tmp 8)], some (7, true)⟩, ⟨some 10, .un .not (.tmp 9), some (7, true)⟩, ⟨some 11, .pick (.tmp 7)
    (.tmp 10) (.const (.bool false)), none⟩, ⟨some 12, .mv (.tmp 11), none⟩, ⟨some 13, .mv (.tmp 0), some (12, false)⟩, ⟨some 14, .mv (.tmp 1), some (12, false)⟩, ⟨some 15, .bin
    .lss (.tmp 13) (.tmp 14), some (12, false)⟩, ⟨some 16, .pick (.tmp 12) (.const (.bool true)) (.tmp 15), none⟩, ⟨some 4, .mv (.tmp 16), none⟩]) .ret))
theorem low174 : lowF Tryz.prog [] Tryz.f174 = some (17, lc174.strip, [.tmp 4]) := by kernel_rfl
theorem fn174 : FnOk Tryz.prog 174 17 lc174 [.tmp 4] := ⟨Tryz.call174, [], _, Tryz.func174, low174⟩
/-- slices.isNaN[int] -/
def lc175 : LCode :=
  (.seq (.region [⟨some 2, .mv (.const (.bool false)), none⟩]) (.seq (.region [⟨some 3, .mv (.tmp 0), none⟩, ⟨some 4, .mv (.tmp 0), none⟩, ⟨some 5, .bin .neq (.tmp 3) (.tmp 4),
    none⟩, ⟨some 2, .mv (.tmp 5), none⟩]) .ret))
theorem low175 : lowF Tryz.prog [] Tryz.f175 = some (6, lc175.strip, [.tmp 2]) := by kernel_rfl
theorem fn175 : FnOk Tryz.prog 175 6 lc175 [.tmp 2] := ⟨Tryz.call175, [], _, Tryz.func175, low175⟩
/-- moonpool/sonar.said$1 -/
def lc176 : LCode :=
  (.seq (.region [⟨some 7, .load true 5 (.tmp 1), none⟩, ⟨some 8, .call (.func 152) [(.tmp 7)], none⟩, ⟨some 9, .len (.tmp 8), none⟩, ⟨some 10, .mv (.const (.int .i64 0)), none⟩])
    (.block 0 (.loop (.seq (.region [⟨some 11, .bin .lss (.tmp 10) (.tmp 9), none⟩]) (.seq (.cond (.tmp 11) .skip (.exit 0)) (.seq (.block 1 (.seq (.region [⟨some 12, .idx 2 (.tmp
    8) (.tmp 10), none⟩, ⟨some 13, .load true 2 (.tmp 12), none⟩, ⟨some 5, .alloc [(.int .i64 0), (.int .i64 0)], none⟩, ⟨none, .store 2 (.tmp 5) (.tmp 13), none⟩]) (.seq (.region
    [⟨some 6, .mv (.const (.int .i64 1)), none⟩]) (.seq (.seq (.region [⟨some 14, .load true 2 (.tmp 5), none⟩, ⟨some 15, .fld 2 (.tmp 1), none⟩, ⟨some 16, .load true 2 (.tmp 15),
    none⟩, ⟨some 17, .eqA false [false, false] (.tmp 14) (.tmp 16), none⟩, ⟨some 18, .mv (.tmp 17), none⟩, ⟨some 19, .fld 4 (.tmp 1), some (18, true)⟩, ⟨some 20, .load false 1 (.tmp
    19), some (18, true)⟩, ⟨some 21, .pick (.tmp 18) (.tmp 20) (.const (.bool false)), none⟩]) (.cond (.tmp 21) (.region [⟨some 6, .mv (.const (.int .i64 2)), none⟩]) .skip)) (.seq
    (.region [⟨some 22, .mv (.tmp 0), none⟩, ⟨some 23, .load true 2 (.tmp 5), none⟩, ⟨some 24, .load false 1 (.tmp 2), none⟩, ⟨some 25, .call (.func 154) [(.tmp 23), (.tmp 24)],
    none⟩, ⟨some 26, .mv (.tmp 6), none⟩, ⟨some 27, .build [(.int .i64 0), (.int .i64 0)] [(0, 1, (.tmp 25)), (1, 1, (.tmp 26))], none⟩, ⟨some 28, .call (.tmp 22) [(.tmp 27)],
    none⟩, ⟨some 29, .un .not (.tmp 28), none⟩]) (.cond (.tmp 29) .ret .skip)))))) (.region [⟨some 30, .bin .add (.tmp 10) (.const (.int .i64 1)), none⟩, ⟨some 10, .mv (.tmp 30),
    none⟩])))))))
theorem low176 : lowF Tryz.prog [] Tryz.f176 = some (31, lc176.strip, []) := by kernel_rfl
theorem fn176 : FnOk Tryz.prog 176 31 lc176 [] := ⟨Tryz.call176, [], _, Tryz.func176, low176⟩
/-- slices.ContainsFunc[[]moonpool/api.Gauss,moonpool/api.Gauss] -/
def lc177 : LCode :=
  (.seq (.region [⟨some 4, .mv (.const (.bool false)), none⟩]) (.seq (.region [⟨some 5, .mv (.tmp 0), none⟩, ⟨some 6, .mv (.tmp 1), none⟩, ⟨some 7, .call (.func 183) [(.tmp 5),
    (.tmp 6)], none⟩, ⟨some 8, .bin .geq (.tmp 7) (.const (.int .i64 0)), none⟩, ⟨some 4, .mv (.tmp 8), none⟩]) .ret))
theorem low177 : lowF Tryz.prog [] Tryz.f177 = some (9, lc177.strip, [.tmp 4]) := by kernel_rfl
theorem fn177 : FnOk Tryz.prog 177 9 lc177 [.tmp 4] := ⟨Tryz.call177, [], _, Tryz.func177, low177⟩
/-- moonpool/sonar.samplesErr$1 -/
def lc178 : LCode :=
  (.seq (.region [⟨some 1, .boxS (.tmp 0), none⟩, ⟨some 2, .mv (.const (.bool false)), none⟩]) (.seq (.region [⟨some 3, .fld 0 (.tmp 1), none⟩, ⟨some 4, .load false 1 (.tmp 3),
    none⟩, ⟨some 5, .call (.func 84) [(.tmp 4), (.const (.int .i64 (-1000))), (.const (.int .i64 1000))], none⟩, ⟨some 6, .un .not (.tmp 5), none⟩, ⟨some 7, .mv (.tmp 6), none⟩,
    ⟨some 8, .fld 1 (.tmp 1), some (7, false)⟩, ⟨some 9, .load false 1 (.tmp 8), some (7, false)⟩, ⟨some 10, .call (.func 84) [(.tmp 9), (.const (.int .i64 (-1000))), (.const (.int
    .i64 1000))], some (7, false)⟩, ⟨some 11, .un .not (.tmp 10), some (7, false)⟩, ⟨some 12, .pick (.tmp 7) (.const (.bool true)) (.tmp 11), none⟩, ⟨some 2, .mv (.tmp 12), none⟩])
    .ret))
theorem low178 : lowF Tryz.prog [1] Tryz.f178 = some (13, lc178.strip, [.tmp 2]) := by kernel_rfl
theorem fn178 : FnOk Tryz.prog 178 13 lc178 [.tmp 2] := ⟨Tryz.call178, [1], _, Tryz.func178, low178⟩
/-- moonpool/moonpoolbase.digit -/
def lc179 : LCode :=
  (.seq (.region [⟨some 4, .mv (.const (.int .i64 0)), none⟩]) (.seq (.seq (.region [⟨some 5, .mv (.tmp 1), none⟩, ⟨some 6, .mv (.tmp 0), none⟩, ⟨some 7, .len (.tmp 6), none⟩, ⟨some
    8, .bin .lss (.tmp 5) (.tmp 7), none⟩]) (.cond (.tmp 8) (.seq (.region [⟨some 9, .mv (.tmp 0), none⟩, ⟨some 10, .mv (.tmp 1), none⟩, ⟨some 11, .idx 1 (.tmp 9) (.tmp 10), none⟩,
    ⟨some 12, .load false 1 (.tmp 11), none⟩, ⟨some 4, .mv (.tmp 12), none⟩]) .ret) .skip)) (.seq (.region [⟨some 4, .mv (.const (.int .i64 0)), none⟩]) .ret)))
theorem low179 : lowF Tryz.prog [] Tryz.f179 = some (13, lc179.strip, [.tmp 4]) := by kernel_rfl
theorem fn179 : FnOk Tryz.prog 179 13 lc179 [.tmp 4] := ⟨Tryz.call179, [], _, Tryz.func179, low179⟩
/-- moonpool/moonpoolbase.WideSign -/
def lc180 : LCode :=
  (.seq (.region [⟨some 1, .boxS (.tmp 0), none⟩, ⟨some 2, .mv (.const (.int .i64 0)), none⟩]) (.seq (.region [⟨some 3, .fld 0 (.tmp 1), none⟩, ⟨some 4, .load false 1 (.tmp 3),
    none⟩, ⟨some 2, .mv (.tmp 4), none⟩]) .ret))
theorem low180 : lowF Tryz.prog [1] Tryz.f180 = some (5, lc180.strip, [.tmp 2]) := by kernel_rfl
theorem fn180 : FnOk Tryz.prog 180 5 lc180 [.tmp 2] := ⟨Tryz.call180, [1], _, Tryz.func180, low180⟩
/-- moonpool/moonpoolbase.wideGcd -/
def lc181 : LCode :=
  (.seq (.region [⟨some 2, .box (.tmp 0), none⟩, ⟨some 3, .box (.tmp 1), none⟩, ⟨some 4, .alloc [(.int .i64 0), (.slice none 0 0)], none⟩]) (.seq (.regionD [⟨some 6, .load true 2
    (.tmp 2), none⟩, ⟨some 7, .call (.func 184) [(.tmp 6)], none⟩, ⟨some 8, .load true 2 (.tmp 3), none⟩, ⟨some 9, .call (.func 184) [(.tmp 8)], none⟩, ⟨none, .store 2 (.tmp 2)
    (.tmp 7), none⟩, ⟨none, .store 2 (.tmp 3) (.tmp 9), none⟩] [0, 1, 0, 7, 15, 31] [0, 1, 2, 3, 4, 5]) (.seq (.block 0 (.loop (.seq (.seq (.region [⟨some 10, .load true 2 (.tmp 3),
    none⟩, ⟨some 11, .call (.func 180) [(.tmp 10)], none⟩, ⟨some 12, .bin .neq (.tmp 11) (.const (.int .i64 0)), none⟩]) (.cond (.tmp 12) .skip (.exit 0))) (.block 1 (.seq (.regionD
    [⟨some 13, .load true 2 (.tmp 2), none⟩, ⟨some 14, .load true 2 (.tmp 2), none⟩, ⟨some 15, .load true 2 (.tmp 3), none⟩, ⟨some 16, .call (.func 141) [(.tmp 14), (.tmp 15)],
    none⟩, ⟨some 17, .load true 2 (.tmp 3), none⟩, ⟨some 18, .call (.func 165) [(.tmp 16), (.tmp 17)], none⟩, ⟨some 19, .call (.func 169) [(.tmp 13), (.tmp 18)], none⟩, ⟨some 5,
    .alloc [(.int .i64 0), (.slice none 0 0)], none⟩, ⟨none, .store 2 (.tmp 5) (.tmp 19), none⟩] [0, 0, 0, 6, 0, 30, 63, 0, 255] [0, 1, 2, 3, 4, 5, 6, 7, 8]) (.regionD [⟨some 20,
    .load true 2 (.tmp 3), none⟩, ⟨some 21, .load true 2 (.tmp 5), none⟩, ⟨none, .store 2 (.tmp 2) (.tmp 20), none⟩, ⟨none, .store 2 (.tmp 3) (.tmp 21), none⟩] [0, 0, 1, 7] [0, 1,
    2, 3])))))) (.seq (.region [⟨some 22, .load true 2 (.tmp 2), none⟩, ⟨none, .store 2 (.tmp 4) (.tmp 22), none⟩]) .ret))))
theorem low181 : lowF Tryz.prog [] Tryz.f181 = some (23, lc181.strip, [.cell 4 true 2]) := by kernel_rfl
theorem fn181 : FnOk Tryz.prog 181 23 lc181 [.cell 4 true 2] := ⟨Tryz.call181, [], _, Tryz.func181, low181⟩
/-- moonpool/moonpoolbase.addDigits -/
def lc182 : LCode :=
  (.seq (.region [⟨some 4, .mv (.const (.slice none 0 0)), none⟩]) (.seq (.region [⟨some 5, .mv (.const (.slice none 0 0)), none⟩]) (.seq (.region [⟨some 6, .mv (.const (.int .i64
    0)), none⟩]) (.seq (.seq (.region [⟨some 7, .mv (.const (.int .i64 0)), none⟩]) (.block 0 (.loop (.seq (.seq (.region [⟨some 9, .mv (.tmp 7), none⟩, ⟨some 10, .mv (.tmp 0),
    none⟩, ⟨some 11, .len (.tmp 10), none⟩, ⟨some 12, .bin .lss (.tmp 9) (.tmp 11), none⟩, ⟨some 13, .mv (.tmp 12), none⟩, ⟨some 14, .mv (.tmp 7), some (13, false)⟩, ⟨some 15, .mv
    (.tmp 1), some (13, false)⟩, ⟨some 16, .len (.tmp 15), some (13, false)⟩, ⟨some 17, .bin .lss (.tmp 14) (.tmp 16), some (13, false)⟩, ⟨some 18, .pick (.tmp 13) (.const (.bool
    true)) (.tmp 17), none⟩, ⟨some 19, .mv (.tmp 18), none⟩, ⟨some 20, .mv (.tmp 6), some (19, false)⟩, ⟨some 21, .bin .gtr (.tmp 20) (.const (.int .i64 0)), some (19, false)⟩,
    ⟨some 22, .pick (.tmp 19) (.const (.bool true)) (.tmp 21), none⟩]) (.cond (.tmp 22) .skip (.exit 0))) (.seq (.block 1 (.seq (.region [⟨some 25, .mv (.tmp 0), none⟩, ⟨some 26,
    .mv (.tmp 7), none⟩, ⟨some 27, .call (.func 179) [(.tmp 25), (.tmp 26)], none⟩, ⟨some 28, .mv (.tmp 1), none⟩, ⟨some 29, .mv (.tmp 7), none⟩, ⟨some 30, .call (.func 179) [(.tmp
    28), (.tmp 29)], none⟩, ⟨some 31, .bin .add (.tmp 27) (.tmp 30), none⟩, ⟨some 32, .mv (.tmp 6), none⟩, ⟨some 33, .bin .add (.tmp 31) (.tmp 32), none⟩, ⟨some 8, .mv (.tmp 33),
    none⟩]) (.region [⟨some 34, .mv (.tmp 5), none⟩, ⟨some 35, .mv (.tmp 8), none⟩, ⟨some 36, .bin .rem (.tmp 35) (.const (.int .i64 1000000000)), none⟩, ⟨some 37, .lit false 3 1
    [(.tmp 36)], none⟩, ⟨some 38, .append true 3 1 8 (.tmp 34) (.tmp 37), none⟩, ⟨some 39, .mv (.tmp 8), none⟩, ⟨some 40, .bin .quo (.tmp 39) (.const (.int .i64 1000000000)), none⟩,
    ⟨some 5, .mv (.tmp 38), none⟩, ⟨some 6, .mv (.tmp 40), none⟩]))) (.region [⟨some 23, .mv (.tmp 7), none⟩, ⟨some 24, .bin .add (.tmp 23) (.const (.int .i64 1)), none⟩, ⟨some 7,
    .mv (.tmp 24), none⟩])))))) (.seq (.region [⟨some 41, .mv (.tmp 5), none⟩, ⟨some 4, .mv (.tmp 41), none⟩]) .ret)))))
theorem low182 : lowF Tryz.prog [38] Tryz.f182 = some (42, lc182.strip, [.tmp 4]) := by kernel_rfl
theorem fn182 : FnOk Tryz.prog 182 42 lc182 [.tmp 4] := ⟨Tryz.call182, [38], _, Tryz.func182, low182⟩
/-- slices.IndexFunc[[]moonpool/api.Gauss,moonpool/api.Gauss] -/
def lc183 : LCode :=
  (.seq (.region [⟨some 4, .mv (.const (.int .i64 0)), none⟩]) (.seq (.seq (.region [⟨some 6, .mv (.tmp 0), none⟩, ⟨some 7, .len (.tmp 6), none⟩, ⟨some 8, .mv (.const (.int .i64
    0)), none⟩]) (.block 0 (.loop (.seq (.region [⟨some 9, .bin .lss (.tmp 8) (.tmp 7), none⟩]) (.seq (.cond (.tmp 9) .skip (.exit 0)) (.seq (.block 1 (.seq (.region [⟨some 10, .mv
    (.tmp 8), none⟩, ⟨some 5, .mv (.tmp 10), none⟩]) (.seq (.region [⟨some 11, .mv (.tmp 1), none⟩, ⟨some 12, .mv (.tmp 0), none⟩, ⟨some 13, .mv (.tmp 5), none⟩, ⟨some 14, .idx 2
    (.tmp 12) (.tmp 13), none⟩, ⟨some 15, .load true 2 (.tmp 14), none⟩, ⟨some 16, .call (.tmp 11) [(.tmp 15)], none⟩]) (.cond (.tmp 16) (.seq (.region [⟨some 17, .mv (.tmp 5),
    none⟩, ⟨some 4, .mv (.tmp 17), none⟩]) .ret) .skip)))) (.region [⟨some 18, .bin .add (.tmp 8) (.const (.int .i64 1)), none⟩, ⟨some 8, .mv (.tmp 18), none⟩]))))))) (.seq (.region
    [⟨some 4, .mv (.const (.int .i64 (-1))), none⟩]) .ret)))
theorem low183 : lowF Tryz.prog [] Tryz.f183 = some (19, lc183.strip, [.tmp 4]) := by kernel_rfl
theorem fn183 : FnOk Tryz.prog 183 19 lc183 [.tmp 4] := ⟨Tryz.call183, [], _, Tryz.func183, low183⟩
/-- moonpool/moonpoolbase.wideSize -/
def lc184 : LCode :=
  (.seq (.region [⟨some 1, .boxS (.tmp 0), none⟩, ⟨some 2, .alloc [(.int .i64 0), (.slice none 0 0)], none⟩]) (.seq (.seq (.region [⟨some 3, .fld 0 (.tmp 1), none⟩, ⟨some 4, .load
    false 1 (.tmp 3), none⟩, ⟨some 5, .bin .lss (.tmp 4) (.const (.int .i64 0)), none⟩]) (.cond (.tmp 5) (.seq (.region [⟨some 6, .load true 2 (.tmp 1), none⟩, ⟨some 7, .call (.func
    149) [(.tmp 6)], none⟩, ⟨none, .store 2 (.tmp 2) (.tmp 7), none⟩]) .ret) .skip)) (.seq (.region [⟨some 8, .load true 2 (.tmp 1), none⟩, ⟨none, .store 2 (.tmp 2) (.tmp 8),
    none⟩]) .ret)))
theorem low184 : lowF Tryz.prog [1] Tryz.f184 = some (9, lc184.strip, [.cell 2 true 2]) := by kernel_rfl
theorem fn184 : FnOk Tryz.prog 184 9 lc184 [.cell 2 true 2] := ⟨Tryz.call184, [1], _, Tryz.func184, low184⟩
end Go.Pw

set_option linter.unusedSimpArgs false
set_option linter.unusedVariables false
namespace Go.Pw
set_option maxRecDepth 2000
open Go Go.Proofs A1 A2 A3 A4
instance : Mix Tryz.prog := ⟨⟨by kernel_rfl⟩⟩
theorem C14 {n lo hi : Int} : PFD Tryz.prog 14 [vi .i64 n, vi .i64 lo, vi .i64 hi] (vbl (decide (lo ≤ n ∧ n ≤ hi))) := by
  refine pi1 fn14 ?_
  (repeat' first | (refine Owe.same ?_; first | refine Owe.o ?_ | refine Owe.mk ?_ ?_) | (refine Fork.same ?_; (first | refine fkD ?_ ?_ | refine fkN ?_ ?_ | refine fkM ?_ ?_) <;> intro h) | refine MvQ.stay ?_)
  · (refine rqK rfl ?_; (repeat' first | exact rfl | (refine qS ?_; constructor))); simp [*]
  · (refine rqK rfl ?_; (repeat' first | exact rfl | (refine qS ?_; constructor))); simp only [decide_eq_false_iff_not]; omega
theorem C84 {n lo hi : Int} : PFD Tryz.prog 84 [vi .i64 n, vi .i64 lo, vi .i64 hi] (vbl (decide (lo ≤ n ∧ n ≤ hi))) := by
  refine pi1 fn84 ?_
  (repeat' first | (refine Owe.same ?_; first | refine Owe.o ?_ | refine Owe.mk ?_ ?_) | (refine Fork.same ?_; (first | refine fkD ?_ ?_ | refine fkN ?_ ?_ | refine fkM ?_ ?_) <;> intro h) | refine MvQ.stay ?_)
  · (refine rqK rfl ?_; (repeat' first | exact rfl | (refine qS ?_; constructor))); simp [*]
  · (refine rqK rfl ?_; (repeat' first | exact rfl | (refine qS ?_; constructor))); simp only [decide_eq_false_iff_not]; omega
theorem C137 {n : Int} : (-4611686018427387904 ≤ n ∧ n ≤ 4611686018427387904) → PFD Tryz.prog 137 [vi .i64 n] (vi .i64 (max n (-n))) := fun h => by
  refine pi1 fn137 ?_
  (repeat' first | (refine Owe.same ?_; first | refine Owe.o ?_ | refine Owe.mk ?_ ?_) | (refine Fork.same ?_; (first | refine fkD ?_ ?_ | refine fkN ?_ ?_ | refine fkM ?_ ?_) <;> intro h) | refine MvQ.stay ?_)
  (refine rqK rfl ?_; (repeat' first | exact rfl | (refine qS ?_; constructor)))
theorem C85 {b : Bool} {e : Int} : PFD Tryz.prog 85 [vbl b, vi .i64 e] (vi .i64 (unb b e)) := by
  refine pi1 fn85 ?_
  (repeat' first | (refine Owe.same ?_; first | refine Owe.o ?_ | refine Owe.mk ?_ ?_) | (refine Fork.same ?_; (first | refine fkD ?_ ?_ | refine fkN ?_ ?_ | refine fkM ?_ ?_) <;> intro h) | refine MvQ.stay ?_)
  · (refine rqK rfl ?_; (repeat' first | exact rfl | (refine qS ?_; constructor))); simp [unb, *]
  · (refine rqK rfl ?_; (repeat' first | exact rfl | (refine qS ?_; constructor))); simp [unb, *]
theorem C71 {l : List Int} : l.length < 4611686018427387904 → PFD Tryz.prog 71 [.c (ints l)] (vi .i64 (fstE l)) := fun hl => by
  refine pi1 fn71 ?_
  (repeat' first | (refine Owe.same ?_; first | refine Owe.o ?_ | refine Owe.mk ?_ ?_) | (refine Fork.same ?_; (first | refine fkD ?_ ?_ | refine fkN ?_ ?_ | refine fkM ?_ ?_) <;> intro h) | refine MvQ.stay ?_)
  refine Sat.lp0 (fun k : Nat => [(7, vi .i64 k), (6, vi .i64 l.length), (5, .c (ints l))]) (fun k => k ≤ l.length ∧ fstE l = fstE (l.drop k)) (fun k => l.length - k) 0 ⟨Nat.zero_le _, rfl⟩ (by ((first | refine qen ?_ | refine qvs ?_ | refine qeq ?_ | refine qst ?_ | refine qv ?_ | refine qc ?_ | refine qe ?_ | refine qcs ?_ | skip); (repeat' first | exact rfl | (refine qS ?_; constructor)))) ?_
  intro k hk
  (repeat' first | (refine Owe.same ?_; first | refine Owe.o ?_ | refine Owe.mk ?_ ?_) | (refine Fork.same ?_; (first | refine fkD ?_ ?_ | refine fkN ?_ ?_ | refine fkM ?_ ?_) <;> intro h) | refine MvQ.stay ?_)
  · simp only [Int.toNat_natCast] at h
    (refine rqK rfl ?_; (repeat' first | exact rfl | (refine qS ?_; constructor)))
    rw [hk.2, fstE_drop l k (by omega), if_neg h, Int.toNat_natCast]
  · simp only [Int.toNat_natCast] at h
    refine again0 (k + 1) ⟨by omega, ?_⟩ (by omega) (by ((first | refine qen ?_ | refine qvs ?_ | refine qeq ?_ | refine qst ?_ | refine qv ?_ | refine qc ?_ | refine qe ?_ | refine qcs ?_ | skip); (repeat' first | exact rfl | (refine qS ?_; constructor))))
    rw [hk.2, fstE_drop l k (by omega), if_pos h]
  · (refine rqK rfl ?_; (repeat' first | exact rfl | (refine qS ?_; constructor)))
    rw [hk.2, List.drop_of_length_le (by omega)]; rfl
theorem C22 {l m : List Int} : l.length < 4611686018427387904 → PFD Tryz.prog 22 [.c (ints l), .c (ints m)] (vbl (decide (l = m))) := fun hl => by
  refine pi1 fn22 ?_
  (repeat' first | (refine Owe.same ?_; first | refine Owe.o ?_ | refine Owe.mk ?_ ?_) | (refine Fork.same ?_; (first | refine fkD ?_ ?_ | refine fkN ?_ ?_ | refine fkM ?_ ?_) <;> intro h) | refine MvQ.stay ?_)
  · (refine rqK rfl ?_; (repeat' first | exact rfl | (refine qS ?_; constructor))); simp only [decide_eq_false_iff_not]; intro he; subst he; omega
  · have hlm : l.length = m.length := by omega
    clear h
    refine Sat.lp0 (fun k : Nat => [(5, vi .i64 k), (0, .c (ints l)), (1, .c (ints m))]) (fun k => k ≤ l.length ∧ ∀ i, i < k → l.getD i 0 = m.getD i 0) (fun k => l.length - k) 0 ⟨Nat.zero_le _, fun i hi => by omega⟩ (by ((first | refine qen ?_ | refine qvs ?_ | refine qeq ?_ | refine qst ?_ | refine qv ?_ | refine qc ?_ | refine qe ?_ | refine qcs ?_ | skip); (repeat' first | exact rfl | (refine qS ?_; constructor)))) ?_
    intro k hk
    (repeat' first | (refine Owe.same ?_; first | refine Owe.o ?_ | refine Owe.mk ?_ ?_) | (refine Fork.same ?_; (first | refine fkD ?_ ?_ | refine fkN ?_ ?_ | refine fkM ?_ ?_) <;> intro h) | refine MvQ.stay ?_)
    · simp only [Int.toNat_natCast] at h
      (refine rqK rfl ?_; (repeat' first | exact rfl | (refine qS ?_; constructor))); simp only [decide_eq_false_iff_not]; intro he; subst he; exact h rfl
    · simp only [Int.toNat_natCast] at h
      refine again0 (k + 1) ⟨by omega, fun i hi => ?_⟩ (by omega) (by ((first | refine qen ?_ | refine qvs ?_ | refine qeq ?_ | refine qst ?_ | refine qv ?_ | refine qc ?_ | refine qe ?_ | refine qcs ?_ | skip); (repeat' first | exact rfl | (refine qS ?_; constructor))))
      rcases Nat.lt_succ_iff_lt_or_eq.1 hi with h3 | rfl
      · exact hk.2 i h3
      · exact h
    · (refine rqK rfl ?_; (repeat' first | exact rfl | (refine qS ?_; constructor))); simp only [decide_eq_true_eq]; exact ext_getD 0 hlm fun i hi => hk.2 i (by omega)
abbrev Pr := Int × Int
abbrev gMul (a b : Pr) : Pr := (a.1 * b.1 - a.2 * b.2, a.1 * b.2 + a.2 * b.1)
abbrev gConj (a : Pr) : Pr := (a.1, -a.2)
abbrev gAdd (a b : Pr) : Pr := (a.1 + b.1, a.2 + b.2)
abbrev gNorm (a : Pr) : Int := a.1 * a.1 + a.2 * a.2
abbrev pr (p : Pr) : V := .agg [int p.1, int p.2]
/-- Both parts are at most so great. -/
abbrev pB (n : Int) (p : Pr) : Prop := (-n ≤ p.1 ∧ p.1 ≤ n) ∧ -n ≤ p.2 ∧ p.2 ≤ n
theorem gMul_bd {a b : Pr} {A B : Int} (ha : pB A a) (hb : pB B b) : pB (2 * (A * B)) (gMul a b) := by
  have h1 := mbd ha.1 hb.1
  have h2 := mbd ha.1 hb.2
  have h3 := mbd ha.2 hb.1
  have h4 := mbd ha.2 hb.2
  refine ⟨⟨?_, ?_⟩, ?_, ?_⟩ <;> simp only [gMul] <;> omega
theorem C36 {l : List (Int × Int × Int)} : l.length ≤ 1000000 → PFD Tryz.prog 36 [.c (trs l)] (.c (trs l)) := fun h => by
  refine pi1 fn36 ?_
  (repeat' first | (refine Owe.same ?_; first | refine Owe.o ?_ | refine Owe.mk ?_ ?_) | (refine Fork.same ?_; (first | refine fkD ?_ ?_ | refine fkN ?_ ?_ | refine fkM ?_ ?_) <;> intro h) | refine MvQ.stay ?_)
  (refine rqK rfl ?_; (repeat' first | exact rfl | (refine qS ?_; constructor)))
/-- The error of a number of items. -/
def cntE (n most : Int) : Int := fstE [unl (0 < n) 10, unl (n ≤ most) 8]
theorem C81 {n m : Int} : PFD Tryz.prog 81 [vi .i64 n, vi .i64 m] (vi .i64 (cntE n m)) := by
  refine pi1 fn81 ?_
  (repeat' first | (refine Owe.same ?_; first | refine Owe.o ?_ | refine Owe.mk ?_ ?_) | (refine Fork.same ?_; (first | refine fkD ?_ ?_ | refine fkN ?_ ?_ | refine fkM ?_ ?_) <;> intro h) | ((first | refine OpsL.same ?_ | refine OpsDL.same ?_); first | refine pK C85 rfl rfl ?_ | refine pK C71 rfl rfl ?_) | refine MvQ.stay ?_)
  (refine rqK rfl ?_; (repeat' first | exact rfl | (refine qS ?_; constructor)))
end Go.Pw

set_option linter.unusedSimpArgs false
set_option linter.unusedVariables false
namespace Go.Pw
set_option maxRecDepth 2000
open Go Go.Proofs A1 A2 A3 A4
/-- The first index from k on at which f holds; -1: there is none. -/
def idxI {α : Type} (f : α → Bool) : Int → List α → Int
  | _, [] => -1
  | k, x :: l => if f x = true then k else idxI f (k + 1) l
theorem idxI_drop {α : Type} (f : α → Bool) (d : α) (l : List α) (k : Nat) (h : k < l.length) : idxI f k (l.drop k) = if f (l.getD k d) = true then (k : Int) else idxI f ((k + 1 : Nat) : Int) (l.drop (k + 1)) := by
  rw [List.drop_eq_getElem_cons h, idxI, List.getD_eq_getElem?_getD, List.getElem?_eq_getElem h]
  rfl
theorem idxI_any {α : Type} (f : α → Bool) : ∀ (l : List α) (k : Int), 0 ≤ k → decide (0 ≤ idxI f k l) = l.any f
  | [], k, _ => rfl
  | x :: l, k, hk => by
    rw [idxI, List.any_cons]
    split
    · rename_i h; rw [h, decide_eq_true hk]; rfl
    · rename_i h; rw [idxI_any f l (k + 1) (by omega)]; simp [h]
theorem C178 {z : Pr} : PFD Tryz.prog 178 [pr z] (vbl (decide (¬ pB 1000 z))) := by
  refine pi1 fn178 ?_
  (repeat' first | (refine Owe.same ?_; first | refine Owe.o ?_ | refine Owe.mk ?_ ?_) | (refine Fork.same ?_; (first | refine fkD ?_ ?_ | refine fkN ?_ ?_ | refine fkM ?_ ?_) <;> intro h) | ((first | refine OpsL.same ?_ | refine OpsDL.same ?_); first | refine pK C84 rfl rfl ?_) | refine MvQ.stay ?_)
  all_goals ((refine rqK rfl ?_; (repeat' first | exact rfl | (refine qS ?_; constructor))); first | (simp only [decide_eq_true_eq]; omega) | (rw [Bool.eq_iff_iff]; simp only [Bool.not_eq_true', decide_eq_true_eq, decide_eq_false_iff_not]; omega))
theorem C183 {g : FuncId} {f : Pr → Bool} (hg : ∀ x : Pr, PFD Tryz.prog g [pr x] (vbl (f x))) {l : List Pr} : l.length ≤ 1000000 → PFD Tryz.prog 183 [.c (prs l), .c (.fn g [])] (vi .i64 (idxI f 0 l)) := fun hl => by
  refine pi1 fn183 ?_
  (repeat' first | (refine Owe.same ?_; first | refine Owe.o ?_ | refine Owe.mk ?_ ?_) | (refine Fork.same ?_; (first | refine fkD ?_ ?_ | refine fkN ?_ ?_ | refine fkM ?_ ?_) <;> intro h) | refine MvQ.stay ?_)
  refine Sat.lp0 (fun k : Nat => [(8, vi .i64 k), (7, vi .i64 l.length), (6, .c (prs l)), (0, .c (prs l)), (1, .c (.fn g []))]) (fun k => k ≤ l.length ∧ idxI f 0 l = idxI f k (l.drop k)) (fun k => l.length - k) 0 ⟨Nat.zero_le _, rfl⟩ (by ((first | refine qen ?_ | refine qvs ?_ | refine qeq ?_ | refine qst ?_ | refine qv ?_ | refine qc ?_ | refine qe ?_ | refine qcs ?_ | skip); (repeat' first | exact rfl | (refine qS ?_; constructor)))) ?_
  intro k hk
  (repeat' first | (refine Owe.same ?_; first | refine Owe.o ?_ | refine Owe.mk ?_ ?_) | (refine Fork.same ?_; (first | refine fkD ?_ ?_ | refine fkN ?_ ?_ | refine fkM ?_ ?_) <;> intro h) | ((first | refine OpsL.same ?_ | refine OpsDL.same ?_); first | refine pK (hg _) rfl rfl ?_) | refine MvQ.stay ?_)
  · have e := idxI_drop f (0, 0) l k (by omega)
    have h : f (l.getD k (0, 0)) = true := h
    rw [if_pos h, ← hk.2] at e
    (refine rqK rfl ?_; (repeat' first | exact rfl | (refine qS ?_; constructor))); rw [e]
  · have e := idxI_drop f (0, 0) l k (by omega)
    have h : f (l.getD k (0, 0)) = false := h
    rw [if_neg (by rw [h]; decide), ← hk.2] at e
    exact again0 (k + 1) ⟨by omega, e⟩ (by omega) (by ((first | refine qen ?_ | refine qvs ?_ | refine qeq ?_ | refine qst ?_ | refine qv ?_ | refine qc ?_ | refine qe ?_ | refine qcs ?_ | skip); (repeat' first | exact rfl | (refine qS ?_; constructor))))
  · have e : idxI f 0 l = -1 := by rw [hk.2, List.drop_of_length_le (by omega)]; rfl
    (refine rqK rfl ?_; (repeat' first | exact rfl | (refine qS ?_; constructor))); rw [e]
theorem C177 {g : FuncId} {f : Pr → Bool} (hg : ∀ x : Pr, PFD Tryz.prog g [pr x] (vbl (f x))) {l : List Pr} : l.length ≤ 1000000 → PFD Tryz.prog 177 [.c (prs l), .c (.fn g [])] (vbl (l.any f)) := fun hl => by
  refine pi1 fn177 ?_
  (repeat' first | (refine Owe.same ?_; first | refine Owe.o ?_ | refine Owe.mk ?_ ?_) | (refine Fork.same ?_; (first | refine fkD ?_ ?_ | refine fkN ?_ ?_ | refine fkM ?_ ?_) <;> intro h) | ((first | refine OpsL.same ?_ | refine OpsDL.same ?_); first | refine pK (C183 hg hl) rfl rfl ?_) | refine MvQ.stay ?_)
  (refine rqK rfl ?_; (repeat' first | exact rfl | (refine qS ?_; constructor)))
  exact idxI_any f l 0 (Int.le_refl _)
/-- The error of samples. -/
def smE (m : Int) (l : List Pr) : Int := fstE [cntE l.length m, unb (!l.any fun z => decide (¬ pB 1000 z)) 2]
theorem C158 {l : List Pr} {m : Int} : l.length ≤ 1000000 → PFD Tryz.prog 158 [.c (prs l), vi .i64 m] (vi .i64 (smE m l)) := fun hl => by
  refine pi1 fn158 ?_
  (repeat' first | (refine Owe.same ?_; first | refine Owe.o ?_ | refine Owe.mk ?_ ?_) | (refine Fork.same ?_; (first | refine fkD ?_ ?_ | refine fkN ?_ ?_ | refine fkM ?_ ?_) <;> intro h) | ((first | refine OpsL.same ?_ | refine OpsDL.same ?_); first | refine pK (C177 (fun x => C178 (z := x)) hl) rfl rfl ?_ | refine pK C81 rfl rfl ?_ | refine pK C85 rfl rfl ?_ | refine pK C71 rfl rfl ?_) | refine MvQ.stay ?_)
  (refine rqK rfl ?_; (repeat' first | exact rfl | (refine qS ?_; constructor)))
def osE (T S : List Pr) : Int := fstE [smE 8 T, smE 40 S]
theorem C125 {T S : List Pr} : (T.length ≤ 1000000 ∧ S.length ≤ 1000000) → PFD Tryz.prog 125 [.c (prs T), .c (prs S)] (vi .i64 (osE T S)) := fun ⟨hT, hS⟩ => by
  refine pi1 fn125 ?_
  (repeat' first | (refine Owe.same ?_; first | refine Owe.o ?_ | refine Owe.mk ?_ ?_) | (refine Fork.same ?_; (first | refine fkD ?_ ?_ | refine fkN ?_ ?_ | refine fkM ?_ ?_) <;> intro h) | ((first | refine OpsL.same ?_ | refine OpsDL.same ?_); first | refine pK C158 rfl rfl ?_ | refine pK C71 rfl rfl ?_) | refine MvQ.stay ?_)
  (refine rqK rfl ?_; (repeat' first | exact rfl | (refine qS ?_; constructor)))
def mt (T S : List Pr) (sh : Nat) : Nat → Pr
  | 0 => (0, 0)
  | k + 1 => gAdd (mt T S sh k) (gMul (gConj (T.getD k (0, 0))) (S.getD (sh + k) (0, 0)))
structure SmOk (T S : List Pr) (sh : Nat) : Prop where
  n : T.length ≤ 8
  m : sh + T.length ≤ S.length
  t : ∀ i, i < T.length → pB 1000 (T.getD i (0, 0))
  s : ∀ i, i < S.length → pB 1000 (S.getD i (0, 0))
theorem mt_bd {T S : List Pr} {sh : Nat} (h : SmOk T S sh) : ∀ k, k ≤ T.length → pB (k * 2000000) (mt T S sh k)
  | 0, _ => by refine ⟨⟨?_, ?_⟩, ?_, ?_⟩ <;> simp [mt]
  | k + 1, hk => by
    have ih := mt_bd h k (by omega)
    have h1 := h.t k (by omega)
    have h2 := h.s (sh + k) (by have := h.m; omega)
    have h3 := gMul_bd (a := gConj (T.getD k (0, 0))) (A := 1000) (B := 1000) (by refine ⟨h1.1, ?_, ?_⟩ <;> simp only [gConj] <;> omega) h2
    simp only [gMul, gConj] at h3
    simp only [mt]
    refine ⟨⟨?_, ?_⟩, ?_, ?_⟩ <;> simp only [gAdd, gMul, gConj] <;> omega
theorem C126 {T S : List Pr} {sh n : Nat} : (SmOk T S sh ∧ T.length ≤ n) → PFD Tryz.prog 126 [.c (prs T), .c (.d (.sl 2 n fun i => r2 (S.getD (sh + i) (0, 0))))] (.c (.cx (mt T S sh T.length).1 (mt T S sh T.length).2)) := fun ⟨hO, hn⟩ => by
  have hn8 := hO.n
  refine pi1 fn126 ?_
  (repeat' first | (refine Owe.same ?_; first | refine Owe.o ?_ | refine Owe.mk ?_ ?_) | (refine Fork.same ?_; (first | refine fkD ?_ ?_ | refine fkN ?_ ?_ | refine fkM ?_ ?_) <;> intro h) | refine MvQ.stay ?_)
  refine Sat.lp0 (fun k : Nat => [(10, vi .i64 k), (9, vi .i64 T.length), (8, .c (prs T)), (1, .c (.d (.sl 2 n fun i => r2 (S.getD (sh + i) (0, 0))))), (5, .c (.cx (mt T S sh k).1 (mt T S sh k).2))]) (fun k => k ≤ T.length) (fun k => T.length - k) 0 (Nat.zero_le _) (by ((first | refine qen ?_ | refine qvs ?_ | refine qeq ?_ | refine qst ?_ | refine qv ?_ | refine qc ?_ | refine qe ?_ | refine qcs ?_ | skip); (repeat' first | exact rfl | (refine qS ?_; constructor)))) ?_
  intro k hk
  have hb := mt_bd hO k hk
  refine Fork.dec (fun hlt => ?_) (fun hlt => ?_)
  · have hlt : k < T.length := by omega
    have h1 := hO.t k hlt
    have h2 := hO.s (sh + k) (by have := hO.m; omega)
    have m1 := mbd h1.1 h2.1
    have m2 := mbd (a := -(T.getD k (0, 0)).2) (A := 1000) (by omega) h2.2
    have m3 := mbd h1.1 h2.2
    have m4 := mbd (a := -(T.getD k (0, 0)).2) (A := 1000) (by omega) h2.1
    (repeat' first | (refine Owe.same ?_; first | refine Owe.o ?_ | refine Owe.mk ?_ ?_) | (refine Fork.same ?_; (first | refine fkD ?_ ?_ | refine fkN ?_ ?_ | refine fkM ?_ ?_) <;> intro h) | refine MvQ.stay ?_)
    exact again0 (k + 1) hlt (by omega) (by ((first | refine qen ?_ | refine qvs ?_ | refine qeq ?_ | refine qst ?_ | refine qv ?_ | refine qc ?_ | refine qe ?_ | refine qcs ?_ | skip); (repeat' first | exact rfl | (refine qS ?_; constructor))))
  · (repeat' first | (refine Owe.same ?_; first | refine Owe.o ?_ | refine Owe.mk ?_ ?_) | (refine Fork.same ?_; (first | refine fkD ?_ ?_ | refine fkN ?_ ?_ | refine fkM ?_ ?_) <;> intro h) | refine MvQ.stay ?_)
    have : k = T.length := by omega
    subst this
    (refine rqK rfl ?_; (repeat' first | exact rfl | (refine qS ?_; constructor)))
/-- The parts of a match, as numbers. -/
theorem mt_R {T S : List Pr} {sh : Nat} (h : SmOk T S sh) : pB 16000000 (mt T S sh T.length) := by
  have h1 := mt_bd h T.length (Nat.le_refl _)
  have h2 := h.n
  refine ⟨⟨?_, ?_⟩, ?_, ?_⟩ <;> omega
def mxL (a : Int) : List Int → Int
  | [] => a
  | x :: l => mxL (max a x) l
theorem mxL_drop (a : Int) (l : List Int) (k : Nat) (h : k < l.length) : mxL a (l.drop k) = mxL (max a (l.getD k 0)) (l.drop (k + 1)) := by
  rw [List.drop_eq_getElem_cons h, mxL, List.getD_eq_getElem?_getD, List.getElem?_eq_getElem h]
  rfl
theorem mxL_le {l : List Int} : ∀ {a b : Int}, mxL a l ≤ b ↔ a ≤ b ∧ ∀ x ∈ l, x ≤ b := by
  induction l with
  | nil => intro a b; simp [mxL]
  | cons x l ih => intro a b; rw [mxL, ih]; simp only [List.mem_cons, forall_eq_or_imp]; constructor <;> intro h <;> refine ⟨by omega, ?_⟩ <;> first | exact h.2 | exact ⟨by omega, h.2⟩ | exact h.2.2
theorem le_mxL {l : List Int} : ∀ {a : Int}, a ≤ mxL a l := by
  induction l with
  | nil => intro a; exact Int.le_refl _
  | cons x l ih => intro a; rw [mxL]; exact Int.le_trans (by omega) ih
theorem C129 {l : List Int} : (0 < l.length ∧ l.length ≤ 1000000) → PFD Tryz.prog 129 [.c (ints l)] (vi .i64 (mxL (l.getD 0 0) (l.drop 1))) := fun ⟨h0, hl⟩ => by
  refine pi1 fn129 ?_
  (repeat' first | (refine Owe.same ?_; first | refine Owe.o ?_ | refine Owe.mk ?_ ?_) | (refine Fork.same ?_; (first | refine fkY ?_ | refine fkF ?_ | ((first | refine fkD ?_ ?_ | refine fkN ?_ ?_ | refine fkM ?_ ?_) <;> intro h))) | ((first | refine OpsL.same ?_ | refine OpsDL.same ?_); first | refine oK C84 rfl rfl rfl ?_) | refine MvQ.stay ?_)
  refine Sat.lp0 (fun p : Nat × Int => [(4, vi .i64 (p.1 : Int)), (0, .c (ints l)), (3, vi .i64 p.2)]) (fun p => p.1 ≤ l.length ∧ mxL (l.getD 0 0) (l.drop 1) = mxL p.2 (l.drop p.1)) (fun p => l.length - p.1) (1, l.getD 0 0) ⟨by omega, rfl⟩ (by ((first | refine qen ?_ | refine qvs ?_ | refine qeq ?_ | refine qst ?_ | refine qv ?_ | refine qc ?_ | refine qe ?_ | refine qcs ?_ | skip); (repeat' first | exact rfl | (refine qS ?_; constructor)))) ?_
  intro ⟨k, a⟩ ⟨hk, he⟩
  simp only at hk he
  (repeat' first | (refine Owe.same ?_; first | refine Owe.o ?_ | refine Owe.mk ?_ ?_) | (refine Fork.same ?_; (first | refine fkD ?_ ?_ | refine fkN ?_ ?_ | refine fkM ?_ ?_) <;> intro h) | refine MvQ.stay ?_)
  · refine again0 (k + 1, max a (l.getD k 0)) ⟨by simp only; omega, ?_⟩ (by simp only; omega) (by ((first | refine qen ?_ | refine qvs ?_ | refine qeq ?_ | refine qst ?_ | refine qv ?_ | refine qc ?_ | refine qe ?_ | refine qcs ?_ | skip); (repeat' first | exact rfl | (refine qS ?_; constructor))))
    rw [he]; exact mxL_drop a l k (by omega)
  · (refine rqK rfl ?_; (repeat' first | exact rfl | (refine qS ?_; constructor)))
    rw [he, List.drop_of_length_le (by omega)]; rfl
/-- Whether an index of a slice of numbers holds a number that is at least so great. -/
theorem C128 {m n : Int} : PFD Tryz.prog 128 [vi .i64 m, .c (.rp [dI n])] (vbl (decide (n ≤ m))) := by
  refine pi1 fn128 ?_
  (repeat' first | (refine Owe.same ?_; first | refine Owe.o ?_ | refine Owe.mk ?_ ?_) | (refine Fork.same ?_; (first | refine fkD ?_ ?_ | refine fkN ?_ ?_ | refine fkM ?_ ?_) <;> intro h) | refine MvQ.stay ?_)
  (refine rqK rfl ?_; (repeat' first | exact rfl | (refine qS ?_; constructor)))
theorem C159 {g : FuncId} {rows : List (List D)} {f : Int → Bool} (hg : ∀ x : Int, PFD Tryz.prog g (vi .i64 x :: rows.map fun r => .c (.rp r)) (vbl (f x))) {l : List Int} : l.length ≤ 1000000 → PFD Tryz.prog 159 [.c (ints l), .c (.fnR g rows)] (vi .i64 (idxI f 0 l)) := fun hl => by
  refine pi1 fn159 ?_
  (repeat' first | (refine Owe.same ?_; first | refine Owe.o ?_ | refine Owe.mk ?_ ?_) | (refine Fork.same ?_; (first | refine fkD ?_ ?_ | refine fkN ?_ ?_ | refine fkM ?_ ?_) <;> intro h) | refine MvQ.stay ?_)
  refine Sat.lp0 (fun k : Nat => [(8, vi .i64 k), (7, vi .i64 l.length), (6, .c (ints l)), (0, .c (ints l)), (1, .c (.fnR g rows))]) (fun k => k ≤ l.length ∧ idxI f 0 l = idxI f k (l.drop k)) (fun k => l.length - k) 0 ⟨Nat.zero_le _, rfl⟩ (by ((first | refine qen ?_ | refine qvs ?_ | refine qeq ?_ | refine qst ?_ | refine qv ?_ | refine qc ?_ | refine qe ?_ | refine qcs ?_ | skip); (repeat' first | exact rfl | (refine qS ?_; constructor)))) ?_
  intro k hk
  (repeat' first | (refine Owe.same ?_; first | refine Owe.o ?_ | refine Owe.mk ?_ ?_) | (refine Fork.same ?_; (first | refine fkD ?_ ?_ | refine fkN ?_ ?_ | refine fkM ?_ ?_) <;> intro h) | ((first | refine OpsL.same ?_ | refine OpsDL.same ?_); first | refine pR (hg _) rfl rfl ?_) | refine MvQ.stay ?_)
  · have e := idxI_drop f 0 l k (by omega)
    have h : f (l.getD k 0) = true := h
    rw [if_pos h, ← hk.2] at e
    (refine rqK rfl ?_; (repeat' first | exact rfl | (refine qS ?_; constructor))); rw [e]
  · have e := idxI_drop f 0 l k (by omega)
    have h : f (l.getD k 0) = false := h
    rw [if_neg (by rw [h]; decide), ← hk.2] at e
    exact again0 (k + 1) ⟨by omega, e⟩ (by omega) (by ((first | refine qen ?_ | refine qvs ?_ | refine qeq ?_ | refine qst ?_ | refine qv ?_ | refine qc ?_ | refine qe ?_ | refine qcs ?_ | skip); (repeat' first | exact rfl | (refine qS ?_; constructor))))
  · have e : idxI f 0 l = -1 := by rw [hk.2, List.drop_of_length_le (by omega)]; rfl
    (refine rqK rfl ?_; (repeat' first | exact rfl | (refine qS ?_; constructor))); rw [e]
theorem C127 {g : FuncId} {rows : List (List D)} {f : Int → Bool} (hg : ∀ x : Int, PFD Tryz.prog g (vi .i64 x :: rows.map fun r => .c (.rp r)) (vbl (f x))) {l : List Int} : l.length ≤ 1000000 → PFD Tryz.prog 127 [.c (ints l), .c (.fnR g rows)] (vbl (l.any f)) := fun hl => by
  refine pi1 fn127 ?_
  (repeat' first | (refine Owe.same ?_; first | refine Owe.o ?_ | refine Owe.mk ?_ ?_) | (refine Fork.same ?_; (first | refine fkD ?_ ?_ | refine fkN ?_ ?_ | refine fkM ?_ ?_) <;> intro h) | ((first | refine OpsL.same ?_ | refine OpsDL.same ?_); first | refine pK (C159 hg hl) rfl rfl ?_) | refine MvQ.stay ?_)
  (refine rqK rfl ?_; (repeat' first | exact rfl | (refine qS ?_; constructor)))
  exact idxI_any f l 0 (Int.le_refl _)
end Go.Pw

set_option linter.unusedSimpArgs false
set_option linter.unusedVariables false
namespace Go.Pw
set_option maxRecDepth 2000
open Go Go.Proofs A1 A2 A3 A4
theorem fst0 {a : Int} {l : List Int} : fstE (a :: l) = 0 ↔ a = 0 ∧ fstE l = 0 := by
  simp only [fstE]
  constructor
  · intro h
    split at h
    · exact ⟨by assumption, h⟩
    · exact absurd h (by assumption)
  · rintro ⟨rfl, h⟩; rw [if_pos rfl]; exact h
theorem unl0 {p : Prop} [Decidable p] {e : Int} (he : e ≠ 0) : unl p e = 0 ↔ p := by rw [unl_eq]; split <;> simp_all
theorem unb0 {b : Bool} {e : Int} (he : e ≠ 0) : unb b e = 0 ↔ b = true := by cases b <;> simp [unb, he]
theorem fst_nil : fstE [] = 0 := rfl
theorem smE_ok {m : Int} {l : List Pr} : smE m l = 0 ↔ (0 < l.length ∧ (l.length : Int) ≤ m) ∧ ∀ i, i < l.length → pB 1000 (l.getD i (0, 0)) := by
  simp only [smE, cntE, fst0, fst_nil, and_true, unl0 (show (10 : Int) ≠ 0 by decide), unl0 (show (8 : Int) ≠ 0 by decide), unb0 (show (2 : Int) ≠ 0 by decide), Bool.not_eq_true', List.any_eq_false, decide_eq_true_eq, Decidable.not_not]
  constructor
  · rintro ⟨⟨h1, h2⟩, h3⟩
    exact ⟨⟨by omega, h2⟩, fun i hi => h3 _ (getD_mem _ hi)⟩
  · rintro ⟨⟨h1, h2⟩, h3⟩
    refine ⟨⟨by omega, h2⟩, fun x hx => ?_⟩
    obtain ⟨i, hi, rfl⟩ := List.getElem_of_mem hx
    have := h3 i hi
    rwa [List.getD_eq_getElem?_getD, List.getElem?_eq_getElem hi] at this
theorem osE_ok {T S : List Pr} {sh : Nat} (h : osE T S = 0) (hs : sh + T.length ≤ S.length) : SmOk T S sh ∧ 0 < T.length ∧ S.length ≤ 40 := by
  rw [osE, fst0, fst0] at h
  obtain ⟨h1, h2, _⟩ := h
  rw [smE_ok] at h1 h2
  exact ⟨⟨by omega, hs, h1.2, h2.2⟩, by omega, by omega⟩
/-- The power of a match. -/
abbrev pwF (T S : List Pr) (s : Nat) : Int := gNorm (mt T S s T.length)
def isEB (lim : Int) (p : Nat → Int) (m n s : Nat) : Bool :=
  decide (lim ≤ p s) && (List.range n).all fun o => !(decide (o < s ∧ s - o < m ∧ p s ≤ p o) || decide (s < o ∧ o - s < m ∧ p s < p o))
theorem isEB_iff {lim : Int} {p : Nat → Int} {m n s : Nat} : isEB lim p m n s = true ↔ lim ≤ p s ∧ ∀ o, o < n → ¬ (o < s ∧ s - o < m ∧ p s ≤ p o) ∧ ¬ (s < o ∧ o - s < m ∧ p s < p o) := by
  simp only [isEB, Bool.and_eq_true, decide_eq_true_eq, List.all_eq_true, List.mem_range, Bool.not_eq_true', Bool.or_eq_false_iff, decide_eq_false_iff_not]
abbrev pwL (T S : List Pr) (n : Nat) : List Int := (List.range n).map (pwF T S)
theorem pwL_get {T S : List Pr} {n i : Nat} (h : i < n) : (pwL T S n).getD i 0 = pwF T S i := by
  simp [pwL, List.getD_eq_getElem?_getD, h]
/-- The test of a shift, as the program makes it. -/
theorem isEB_prog {lim : Int} {T S : List Pr} {m n s : Nat} (hm : 0 < m) (hs : s < n) :
    (decide (lim ≤ pwF T S s) && !(((pwL T S n).take s).drop (s + 1 - m)).any (fun x => decide (pwF T S s ≤ x)) && decide (mxL ((((pwL T S n).take (min n (s + m))).drop s).getD 0 0) ((((pwL T S n).take (min n (s + m))).drop s).drop 1) = pwF T S s)) = isEB lim (pwF T S) m n s := by
  have hlen : (pwL T S n).length = n := by simp [pwL]
  have hb : (((pwL T S n).take s).drop (s + 1 - m)).any (fun x => decide (pwF T S s ≤ x)) = false ↔ ∀ o, o < n → ¬ (o < s ∧ s - o < m ∧ pwF T S s ≤ pwF T S o) := by
    simp only [List.any_eq_false, decide_eq_true_eq]
    constructor
    · rintro h o ho ⟨h1, h2, h3⟩
      refine h (pwF T S o) ?_ h3
      refine List.mem_iff_getElem?.2 ⟨o - (s + 1 - m), ?_⟩
      rw [List.getElem?_drop, List.getElem?_take, if_pos (by omega), show s + 1 - m + (o - (s + 1 - m)) = o by omega]
      simp [pwL, ho]
    · intro h x hx h3
      obtain ⟨i, hi⟩ := List.mem_iff_getElem?.1 hx
      rw [List.getElem?_drop, List.getElem?_take] at hi
      split at hi
      · rename_i hlt
        simp only [pwL, List.getElem?_map, List.getElem?_range (show s + 1 - m + i < n by omega), Option.map_some, Option.some.injEq] at hi
        subst hi
        exact h (s + 1 - m + i) (by omega) ⟨by omega, by omega, h3⟩
      · cases hi
  have h0 : (((pwL T S n).take (min n (s + m))).drop s).getD 0 0 = pwF T S s := by
    rw [getD_drop', getD_take' (by omega), Nat.add_zero, pwL_get hs]
  have hmx : mxL ((((pwL T S n).take (min n (s + m))).drop s).getD 0 0) ((((pwL T S n).take (min n (s + m))).drop s).drop 1) = pwF T S s ↔ ∀ o, o < n → ¬ (s < o ∧ o - s < m ∧ pwF T S s < pwF T S o) := by
    rw [h0]
    have hle : mxL (pwF T S s) ((((pwL T S n).take (min n (s + m))).drop s).drop 1) = pwF T S s ↔ mxL (pwF T S s) ((((pwL T S n).take (min n (s + m))).drop s).drop 1) ≤ pwF T S s :=
      ⟨fun h => Int.le_of_eq h, fun h => Int.le_antisymm h le_mxL⟩
    rw [hle, mxL_le]
    constructor
    · rintro ⟨_, h⟩ o ho ⟨h1, h2, h3⟩
      have := h (pwF T S o) (List.mem_iff_getElem?.2 ⟨o - s - 1, by
        rw [List.getElem?_drop, List.getElem?_drop, List.getElem?_take, if_pos (by omega), show s + (1 + (o - s - 1)) = o by omega]
        simp [pwL, ho]⟩)
      omega
    · intro h
      refine ⟨Int.le_refl _, fun x hx => ?_⟩
      obtain ⟨i, hi⟩ := List.mem_iff_getElem?.1 hx
      rw [List.getElem?_drop, List.getElem?_drop, List.getElem?_take] at hi
      split at hi
      · rename_i hlt
        simp only [pwL, List.getElem?_map, List.getElem?_range (show s + (1 + i) < n by omega), Option.map_some, Option.some.injEq] at hi
        subst hi
        have := h (s + (1 + i)) (by omega)
        omega
      · cases hi
  rw [Bool.eq_iff_iff, isEB_iff]
  simp only [Bool.and_eq_true, decide_eq_true_eq, Bool.not_eq_true', hb, hmx]
  constructor
  · rintro ⟨⟨h1, h2⟩, h3⟩; exact ⟨h1, fun o ho => ⟨h2 o ho, h3 o ho⟩⟩
  · rintro ⟨h1, h2⟩; exact ⟨⟨h1, fun o ho => (h2 o ho).1⟩, fun o ho => (h2 o ho).2⟩
end Go.Pw

set_option linter.unusedSimpArgs false
set_option linter.unusedVariables false
namespace Go.Pw
set_option maxRecDepth 2000
open Go Go.Proofs A1 A2 A3 A4
def ecE (T S : List Pr) (lim : Int) : Int := fstE [osE T S, unl ((T.length : Int) ≤ S.length) 10, unl (1 ≤ lim ∧ lim ≤ 1000000000000000) 2]
theorem ecE_ok {T S : List Pr} {lim : Int} (h : ecE T S lim = 0) : T.length ≤ S.length ∧ 0 < T.length ∧ S.length ≤ 40 ∧ (1 ≤ lim ∧ lim ≤ 1000000000000000) ∧ ∀ s, s + T.length ≤ S.length → SmOk T S s := by
  rw [ecE, fst0, fst0, fst0] at h
  obtain ⟨h1, h2, h3, _⟩ := h
  rw [unl0 (by decide)] at h2 h3
  obtain ⟨_, h5, h6⟩ := osE_ok (sh := 0) h1 (by omega)
  exact ⟨by omega, h5, h6, h3, fun s hs => (osE_ok h1 hs).1⟩
/-- All echoes. -/
abbrev ecL (T S : List Pr) (lim : Int) : List Int := fltL (isEB lim (pwF T S) T.length (S.length - T.length + 1)) (S.length - T.length + 1)
theorem pwL_succ (T S : List Pr) (n : Nat) : pwL T S (n + 1) = pwL T S n ++ [pwF T S n] := by simp [pwL, List.range_succ]
theorem pwL_len (T S : List Pr) (n : Nat) : (pwL T S n).length = n := by simp [pwL]
set_option maxHeartbeats 1000000 in
theorem C66 {T S : List Pr} {lim : Int} : (T.length ≤ 1000000 ∧ S.length ≤ 1000000) → PFD Tryz.prog 66 [.c (prs T), .c (prs S), vi .i64 lim] (.tup [.c (ints (if ecE T S lim = 0 then ecL T S lim else [])), vi .i64 (ecE T S lim)]) := fun ⟨hT, hS⟩ => by
  by_cases h0 : ecE T S lim = 0
  · rw [if_pos h0]
    obtain ⟨hTS, hT0, hS40, hlim, hO⟩ := ecE_ok h0
    obtain ⟨n, hn⟩ : ∃ n, S.length - T.length + 1 = n := ⟨_, rfl⟩
    rw [show ecL T S lim = fltL (isEB lim (pwF T S) T.length n) n by rw [ecL, hn]]
    refine pi2 fn66 ?_
    (repeat' first | (refine Owe.same ?_; first | refine Owe.o ?_ | refine Owe.mk ?_ ?_) | (refine Fork.same ?_; (first | refine fkD ?_ ?_ | refine fkN ?_ ?_ | refine fkM ?_ ?_) <;> intro h) | ((first | refine OpsL.same ?_ | refine OpsDL.same ?_); first | refine pK C125 rfl rfl ?_ | refine pK C84 rfl rfl ?_ | refine pK C85 rfl rfl ?_ | refine pK C71 rfl rfl ?_) | refine MvQ.stay ?_)
    · exact absurd h0 h
    refine Sat.nilS 9 3 1 (fun i => r1 (([] : List Int).getD i 0)) rfl ?_
    refine Sat.lp (fun k : Nat => ⟨[(42, vi .i64 k), (41, vi .i64 (n : Int)), (0, .c (prs T)), (1, .c (prs S)), (2, vi .i64 lim), (9, .c (.ms 0 (pwL T S k).length))], [(0, rowv 3 1 r1 0 (pwL T S k))], 1⟩)
      (fun k => k ≤ n) (fun k => n - k) 0 [0] (Nat.zero_le _) ?_ ?_
    · (refine qis ?_ ?_ <;> (repeat' first | exact rfl | (refine qS ?_; constructor)))
      omega
    · intro k hk
      have hlen := pwL_len T S k
      refine Fork.dec (fun hlt => ?_) (fun hlt => ?_)
      · have hlt : k < n := by omega
        have hOk := hO k (by omega)
        have c51 := C126 (T := T) (S := S) (sh := k) (n := S.length - k) ⟨hOk, by omega⟩
        have hR := mt_R hOk
        have q1 := mbd hR.1 hR.1
        have q2 := mbd hR.2 hR.2
        (repeat' first | (refine Owe.same ?_; first | refine Owe.o ?_ | refine Owe.mk ?_ ?_) | (refine Fork.same ?_; (first | refine fkD ?_ ?_ | refine fkN ?_ ?_ | refine fkM ?_ ?_) <;> intro h) | ((first | refine OpsL.same ?_ | refine OpsDL.same ?_); first | refine pK c51 rfl rfl ?_) | refine MvQ.stay ?_)
        refine again (k + 1) [1] hlt (by omega) ?_
        (refine qis ?_ ?_ <;> (repeat' first | exact rfl | (refine qS ?_; constructor)))
        · rw [pwL_len, pwL_len]; rfl
        · exact pwL_succ T S k
      · have : k = n := by omega
        subst this
        (repeat' first | (refine Owe.same ?_; first | refine Owe.o ?_ | refine Owe.mk ?_ ?_) | (refine Fork.same ?_; (first | refine fkD ?_ ?_ | refine fkN ?_ ?_ | refine fkM ?_ ?_) <;> intro h) | refine MvQ.stay ?_)
        refine SatL.frz 9 _ rfl rfl (Nat.le_refl _) ?_
        refine SatL.frz 67 _ rfl rfl (Nat.le_refl _) ?_
        refine Sat.nilS 14 3 1 (fun i => r1 (([] : List Int).getD i 0)) rfl ?_
        refine Sat.lp (fun j : Nat => ⟨[(69, vi .i64 j), (68, vi .i64 (k : Int)), (67, .c (ints (pwL T S k))), (9, .c (ints (pwL T S k))), (0, .c (prs T)), (2, vi .i64 lim), (14, .c (.ms 0 (fltL (isEB lim (pwF T S) T.length k) j).length))], [(0, rowv 3 1 r1 0 (fltL (isEB lim (pwF T S) T.length k) j))], 1⟩)
          (fun j => j ≤ k) (fun j => k - j) 0 [1] (Nat.zero_le _) ?_ ?_
        · (refine qis ?_ ?_ <;> (repeat' first | exact rfl | (refine qS ?_; constructor)))
          omega
        · intro j hj
          have hfl := fltL_len (isEB lim (pwF T S) T.length k) j
          have hfs := fltL_succ (isEB lim (pwF T S) T.length k) j
          refine Fork.dec (fun hlt => ?_) (fun hlt => ?_)
          · have hlt : j < k := by omega
            have e := isEB_prog (lim := lim) (T := T) (S := S) hT0 hlt
            have hg := pwL_get (T := T) (S := S) hlt
            have c52 : ∀ l : List Int, l.length ≤ 1000000 → ∀ p : Int, PFD Tryz.prog 127 [.c (ints l), .c (.fnR 128 [[dI p]])] (vbl (l.any fun x => decide (p ≤ x))) := fun l hl p => C127 (fun x => C128 (m := x) (n := p)) hl
            (repeat' first | (refine Owe.same ?_; first | refine Owe.o ?_ | refine Owe.mk ?_ ?_) | (refine Fork.same ?_; (first | refine fkD ?_ ?_ | refine fkN ?_ ?_ | refine fkM ?_ ?_) <;> intro h) | refine MvQ.stay ?_)
            refine SatL.as 17 (.c (ints (((pwL T S k).take j).drop (j + 1 - T.length)))) ?_ ?_
            · have e1 : (Int.toNat (max 0 ((j : Int) - T.length + 1))) = j + 1 - T.length := by omega
              have := VEq.cut (s := 1) (row := r1) (d := (0 : Int)) (l := pwL T S k) (m := ((pwL T S k).take j).drop (j + 1 - T.length)) (k := Int.toNat (max 0 ((j : Int) - T.length + 1))) (j := (j : Int).toNat) (by omega) (by omega) (by rw [e1]; rfl)
              exact this
            refine SatL.as 18 (.c (ints (((pwL T S k).take (min k (j + T.length))).drop j))) ?_ ?_
            · have e1 : (Int.toNat (min ((pwL T S k).length : Int) ((j : Int) + T.length))) = min k (j + T.length) := by omega
              have := VEq.cut (s := 1) (row := r1) (d := (0 : Int)) (l := pwL T S k) (m := ((pwL T S k).take (min k (j + T.length))).drop j) (k := (j : Int).toNat) (j := Int.toNat (min ((pwL T S k).length : Int) ((j : Int) + T.length))) (by omega) (by omega) (by rw [e1]; rfl)
              exact this
            refine SatL.frB 1 [16] rfl rfl ?_
            refine SatL.go ?_
            have c52' := c52 (((pwL T S k).take j).drop (j + 1 - T.length)) (by simp; omega) ((pwL T S k).getD (j : Int).toNat 0)
            have c54' := C129 (l := ((pwL T S k).take (min k (j + T.length))).drop j) (by simp only [List.length_drop, List.length_take]; omega)
            have hg' : (pwL T S k).getD (j : Int).toNat 0 = pwF T S j := hg
            (repeat' first | (refine Owe.same ?_; first | refine Owe.o ?_ | refine Owe.mk ?_ ?_) | (refine Fork.same ?_; (first | refine fkD ?_ ?_ | refine fkN ?_ ?_ | refine fkM ?_ ?_) <;> intro h) | ((first | refine OpsL.same ?_ | refine OpsDL.same ?_); first | refine pK c52' rfl rfl ?_ | refine pK c54' rfl rfl ?_) | refine MvQ.stay ?_)
            · rename_i h1 h2
              rw [hg'] at h h1 h2
              rw [decide_eq_true h1, h2, decide_eq_true h] at e
              rw [if_pos (by rw [← e]; rfl)] at hfs
              refine again (j + 1) [15] hlt (by omega) ?_
              (refine qis ?_ ?_ <;> (repeat' first | exact rfl | (refine qS ?_; constructor)))
              · rw [hfs]; simp
              · exact hfs
            · rename_i h1 h2
              rw [hg'] at h h1 h2
              rw [decide_eq_true h1, h2, decide_eq_false h] at e
              rw [if_neg (by rw [← e]; simp)] at hfs
              refine again (j + 1) [0] hlt (by omega) ?_
              (refine qis ?_ ?_ <;> (repeat' first | exact rfl | (refine qS ?_; constructor)))
              · rw [hfs]
              · rw [hfs]
            · rename_i h1
              rw [hg'] at h h1
              rw [decide_eq_true h1, h] at e
              rw [if_neg (by rw [← e]; simp)] at hfs
              refine again (j + 1) [0] hlt (by omega) ?_
              (refine qis ?_ ?_ <;> (repeat' first | exact rfl | (refine qS ?_; constructor)))
              · rw [hfs]
              · rw [hfs]
            · rw [hg'] at h
              rw [decide_eq_false h] at e
              rw [if_neg (by rw [← e]; simp)] at hfs
              refine again (j + 1) [0] hlt (by omega) ?_
              (refine qis ?_ ?_ <;> (repeat' first | exact rfl | (refine qS ?_; constructor)))
              · rw [hfs]
              · rw [hfs]
          · have : j = k := by omega
            subst this
            (repeat' first | (refine Owe.same ?_; first | refine Owe.o ?_ | refine Owe.mk ?_ ?_) | (refine Fork.same ?_; (first | refine fkD ?_ ?_ | refine fkN ?_ ?_ | refine fkM ?_ ?_) <;> intro h) | refine MvQ.stay ?_)
            refine rqF 0 _ rfl rfl rfl ?_; (repeat' first | exact rfl | (refine qS ?_; constructor))
            exact h0.symm
  · rw [if_neg h0]
    refine pi2 fn66 ?_
    (repeat' first | (refine Owe.same ?_; first | refine Owe.o ?_ | refine Owe.mk ?_ ?_) | (refine Fork.same ?_; (first | refine fkD ?_ ?_ | refine fkN ?_ ?_ | refine fkM ?_ ?_) <;> intro h) | ((first | refine OpsL.same ?_ | refine OpsDL.same ?_); first | refine pK C125 rfl rfl ?_ | refine pK C84 rfl rfl ?_ | refine pK C85 rfl rfl ?_ | refine pK C71 rfl rfl ?_) | refine MvQ.stay ?_)
    · (refine rqK rfl ?_; (repeat' first | exact rfl | (refine qS ?_; constructor)))
    · exact absurd h h0
end Go.Pw

set_option linter.unusedSimpArgs false
set_option linter.unusedVariables false
namespace Go.Pw
set_option maxRecDepth 2000
open Go Go.Proofs A1 A2 A3 A4
theorem C161 {n : Int} : PFD Tryz.prog 161 [vi .i64 n] (vbl false) := by
  refine pi1 fn161 ?_
  (repeat' first | (refine Owe.same ?_; first | refine Owe.o ?_ | refine Owe.mk ?_ ?_) | (refine Fork.same ?_; (first | refine fkD ?_ ?_ | refine fkN ?_ ?_ | refine fkM ?_ ?_) <;> intro h) | refine MvQ.stay ?_)
  (refine rqK rfl ?_; (repeat' first | exact rfl | (refine qS ?_; constructor)))
  simp
theorem C174 {a b : Int} : PFD Tryz.prog 174 [vi .i64 a, vi .i64 b] (vbl (decide (a < b))) := by
  refine pi1 fn174 ?_
  (repeat' first | (refine Owe.same ?_; first | refine Owe.o ?_ | refine Owe.mk ?_ ?_) | (refine Fork.same ?_; (first | refine fkY ?_ | refine fkF ?_ | ((first | refine fkD ?_ ?_ | refine fkN ?_ ?_ | refine fkM ?_ ?_) <;> intro h))) | ((first | refine OpsL.same ?_ | refine OpsDL.same ?_); first | refine pK C161 rfl rfl ?_) | refine MvQ.stay ?_)
  (refine rqK rfl ?_; (repeat' first | exact rfl | (refine qS ?_; constructor)))
def cmpI (a b : Int) : Int := if a < b then -1 else if b < a then 1 else 0
theorem C135 {a b : Int} : PFD Tryz.prog 135 [vi .i64 a, vi .i64 b] (vi .i64 (cmpI a b)) := by
  refine pi1 fn135 ?_
  (repeat' first | (refine Owe.same ?_; first | refine Owe.o ?_ | refine Owe.mk ?_ ?_) | (refine Fork.same ?_; (first | refine fkY ?_ | refine fkF ?_ | ((first | refine fkD ?_ ?_ | refine fkN ?_ ?_ | refine fkM ?_ ?_) <;> intro h))) | ((first | refine OpsL.same ?_ | refine OpsDL.same ?_); first | refine pK C161 rfl rfl ?_) | refine MvQ.stay ?_)
  · (refine rqK rfl ?_; (repeat' first | exact rfl | (refine qS ?_; constructor))); rw [cmpI, if_pos h]
  · rename_i h1
    (refine rqK rfl ?_; (repeat' first | exact rfl | (refine qS ?_; constructor))); rw [cmpI, if_neg h1, if_pos h]
  · rename_i h1
    (refine rqK rfl ?_; (repeat' first | exact rfl | (refine qS ?_; constructor))); rw [cmpI, if_neg h1, if_neg h]
theorem C134 {l : List Int} : l.length < 4611686018427387904 → PFD Tryz.prog 134 [.c (ints l)] (vi .i64 (fstE l)) := fun hl => by
  refine pi1 fn134 ?_
  (repeat' first | (refine Owe.same ?_; first | refine Owe.o ?_ | refine Owe.mk ?_ ?_) | (refine Fork.same ?_; (first | refine fkD ?_ ?_ | refine fkN ?_ ?_ | refine fkM ?_ ?_) <;> intro h) | refine MvQ.stay ?_)
  refine Sat.lp0 (fun k : Nat => [(8, vi .i64 k), (7, vi .i64 l.length), (6, .c (ints l)), (3, vi .i64 0)]) (fun k => k ≤ l.length ∧ fstE l = fstE (l.drop k)) (fun k => l.length - k) 0 ⟨Nat.zero_le _, rfl⟩ (by ((first | refine qen ?_ | refine qvs ?_ | refine qeq ?_ | refine qst ?_ | refine qv ?_ | refine qc ?_ | refine qe ?_ | refine qcs ?_ | skip); (repeat' first | exact rfl | (refine qS ?_; constructor)))) ?_
  intro k hk
  (repeat' first | (refine Owe.same ?_; first | refine Owe.o ?_ | refine Owe.mk ?_ ?_) | (refine Fork.same ?_; (first | refine fkD ?_ ?_ | refine fkN ?_ ?_ | refine fkM ?_ ?_) <;> intro h) | refine MvQ.stay ?_)
  · simp only [Int.toNat_natCast] at h
    (refine rqK rfl ?_; (repeat' first | exact rfl | (refine qS ?_; constructor)))
    rw [hk.2, fstE_drop l k (by omega), if_neg h, Int.toNat_natCast]
  · simp only [Int.toNat_natCast] at h
    refine again0 (k + 1) ⟨by omega, ?_⟩ (by omega) (by ((first | refine qen ?_ | refine qvs ?_ | refine qeq ?_ | refine qst ?_ | refine qv ?_ | refine qc ?_ | refine qe ?_ | refine qcs ?_ | skip); (repeat' first | exact rfl | (refine qS ?_; constructor))))
    rw [hk.2, fstE_drop l k (by omega), if_pos h]
  · (refine rqK rfl ?_; (repeat' first | exact rfl | (refine qS ?_; constructor)))
    rw [hk.2, List.drop_of_length_le (by omega)]; rfl
/-- Lists of numbers compared. -/
def cmpL : List Int → List Int → Int
  | [], [] => 0
  | [], _ :: _ => -1
  | _ :: _, [] => 1
  | x :: l, y :: m => if cmpI x y = 0 then cmpL l m else cmpI x y
theorem cmpL_drop (l m : List Int) (k : Nat) (h1 : k < l.length) (h2 : k < m.length) : cmpL (l.drop k) (m.drop k) = if cmpI (l.getD k 0) (m.getD k 0) = 0 then cmpL (l.drop (k + 1)) (m.drop (k + 1)) else cmpI (l.getD k 0) (m.getD k 0) := by
  rw [List.drop_eq_getElem_cons h1, List.drop_eq_getElem_cons h2, cmpL, List.getD_eq_getElem?_getD, List.getElem?_eq_getElem h1, List.getD_eq_getElem?_getD, List.getElem?_eq_getElem h2]
  rfl
theorem C136 {l m : List Int} : (l.length ≤ 1000000 ∧ m.length ≤ 1000000) → PFD Tryz.prog 136 [.c (ints l), .c (ints m)] (vi .i64 (cmpL l m)) := fun ⟨hl, hm⟩ => by
  refine pi1 fn136 ?_
  (repeat' first | (refine Owe.same ?_; first | refine Owe.o ?_ | refine Owe.mk ?_ ?_) | (refine Fork.same ?_; (first | refine fkD ?_ ?_ | refine fkN ?_ ?_ | refine fkM ?_ ?_) <;> intro h) | refine MvQ.stay ?_)
  refine Sat.lp0 (fun k : Nat => [(11, vi .i64 k), (10, vi .i64 l.length), (9, .c (ints l)), (0, .c (ints l)), (1, .c (ints m))]) (fun k => k ≤ l.length ∧ k ≤ m.length ∧ cmpL l m = cmpL (l.drop k) (m.drop k)) (fun k => l.length - k) 0 ⟨Nat.zero_le _, Nat.zero_le _, rfl⟩ (by ((first | refine qen ?_ | refine qvs ?_ | refine qeq ?_ | refine qst ?_ | refine qv ?_ | refine qc ?_ | refine qe ?_ | refine qcs ?_ | skip); (repeat' first | exact rfl | (refine qS ?_; constructor)))) ?_
  intro k ⟨hk, hk2, he⟩
  (repeat' first | (refine Owe.same ?_; first | refine Owe.o ?_ | refine Owe.mk ?_ ?_) | (refine Fork.same ?_; (first | refine fkD ?_ ?_ | refine fkN ?_ ?_ | refine fkM ?_ ?_) <;> intro h) | ((first | refine OpsL.same ?_ | refine OpsDL.same ?_); first | refine pK C135 rfl rfl ?_) | refine MvQ.stay ?_)
  · (refine rqK rfl ?_; (repeat' first | exact rfl | (refine qS ?_; constructor)))
    rw [he, List.drop_of_length_le (show m.length ≤ k by omega), List.drop_eq_getElem_cons (show k < l.length by omega)]; rfl
  · have e := cmpL_drop l m k (by omega) (by omega)
    have h : ¬ cmpI (l.getD k 0) (m.getD k 0) = 0 := h
    rw [if_neg h] at e
    (refine rqK rfl ?_; (repeat' first | exact rfl | (refine qS ?_; constructor))); rw [he, e]; rfl
  · have e := cmpL_drop l m k (by omega) (by omega)
    have h : cmpI (l.getD k 0) (m.getD k 0) = 0 := h
    rw [if_pos h] at e
    exact again0 (k + 1) ⟨by omega, by omega, by rw [he, e]⟩ (by omega) (by ((first | refine qen ?_ | refine qvs ?_ | refine qeq ?_ | refine qst ?_ | refine qv ?_ | refine qc ?_ | refine qe ?_ | refine qcs ?_ | skip); (repeat' first | exact rfl | (refine qS ?_; constructor))))
  · (refine rqK rfl ?_; (repeat' first | exact rfl | (refine qS ?_; constructor)))
    rw [he, List.drop_of_length_le (show l.length ≤ k by omega), List.drop_eq_getElem_cons (show k < m.length by omega)]; rfl
  · (refine rqK rfl ?_; (repeat' first | exact rfl | (refine qS ?_; constructor)))
    rw [he, List.drop_of_length_le (show l.length ≤ k by omega), List.drop_of_length_le (show m.length ≤ k by omega)]; rfl
theorem bit_test {b i : Nat} (hb : b < 2 ^ 63) (hi : i < 64) : decide (IntKind.u64.wrap ((BitVec.ofInt IntKind.u64.bits ((b : Int).fdiv (2 ^ min (Int.toNat (i : Int)) IntKind.u64.bits)) &&& BitVec.ofInt IntKind.u64.bits 1).toNat : Nat) = 1) = b.testBit i := by
  have hbits : IntKind.u64.bits = 64 := rfl
  have e1 : (b : Int).fdiv (2 ^ min (Int.toNat (i : Int)) IntKind.u64.bits) = ((b / 2 ^ i : Nat) : Int) := by
    rw [hbits, Int.toNat_natCast, Nat.min_eq_left (by omega), Int.fdiv_eq_ediv_of_nonneg _ (Int.pow_nonneg (by decide))]
    norm_cast
  rw [e1, Nat.testBit_eq_decide_div_mod_eq]
  have hlt : b / 2 ^ i < 2 ^ 63 := by
    have := Nat.div_le_self b (2 ^ i)
    omega
  generalize b / 2 ^ i = q at hlt ⊢
  have e2 : (BitVec.ofInt IntKind.u64.bits (q : Int) &&& BitVec.ofInt IntKind.u64.bits 1).toNat = q % 2 := by
    rw [BitVec.toNat_and]
    have f1 : (BitVec.ofInt IntKind.u64.bits (q : Int)).toNat = q := by
      rw [BitVec.toNat_ofInt, hbits]; omega
    have f2 : (BitVec.ofInt IntKind.u64.bits 1).toNat = 1 := rfl
    rw [f1, f2, Nat.and_one_is_mod]
  rw [e2]
  have e3 : IntKind.u64.wrap ((q % 2 : Nat) : Int) = ((q % 2 : Nat) : Int) := by
    rcases (show q % 2 = 0 ∨ q % 2 = 1 by omega) with h | h <;> rw [h] <;> rfl
  rw [e3, Bool.eq_iff_iff, decide_eq_true_eq, decide_eq_true_eq]
  omega
/-- The numbers of a set, as bits say. -/
abbrev subL (n b : Nat) : List Int := fltL (fun i => b.testBit i) n
theorem subL_mem {n b : Nat} {x : Int} (h : x ∈ subL n b) : 0 ≤ x ∧ x < n := by
  simp only [subL, fltL, List.mem_map, List.mem_filter, List.mem_range] at h
  obtain ⟨i, ⟨h1, _⟩, rfl⟩ := h
  omega
structure BSt where
  l : List Int
  p : Int
  ok : Bool
/-- The best set among those of the first bits. -/
def bestK (c : List Int → Int × Bool) (n : Nat) : Nat → BSt
  | 0 => ⟨[], 0, false⟩
  | b + 1 => let s := bestK c n b
    let t := subL n b
    if (c t).2 = true ∧ (s.ok = false ∨ fstE [cmpI (c t).1 s.p, cmpI t.length s.l.length, cmpL t s.l] < 0) then ⟨t, (c t).1, true⟩ else s
theorem bestK_len (c : List Int → Int × Bool) (n : Nat) : ∀ b, (bestK c n b).l.length ≤ n
  | 0 => by simp [bestK]
  | b + 1 => by
    have ih := bestK_len c n b
    have := fltL_len (fun i => b.testBit i) n
    simp only [bestK]
    split
    · exact this
    · exact ih
theorem C75 {g : FuncId} {rows : List (List D)} {c : List Int → Int × Bool} {n : Nat} (hg : ∀ t : List Int, t.length ≤ 1000000 → (∀ x ∈ t, 0 ≤ x ∧ x < n) → PFD Tryz.prog g (.c (ints t) :: rows.map fun r => .c (.rp r)) (.tup [vi .i64 (c t).1, vbl (c t).2])) : n ≤ 20 → PFD Tryz.prog 75 [vi .i64 n, .c (.fnR g rows)] (.tup [.c (ints (bestK c n (2 ^ n)).l), vi .i64 (bestK c n (2 ^ n)).p, vbl (bestK c n (2 ^ n)).ok]) := fun hn => by
  have hpow : 2 ^ n ≤ 2 ^ 20 := Nat.pow_le_pow_right (by decide) hn
  obtain ⟨m, hm⟩ : ∃ m, 2 ^ n = m := ⟨_, rfl⟩
  have hp : ((2 : Int) ^ n) = (m : Int) := by rw [← hm]; norm_cast
  rw [hm] at hpow ⊢
  have e1 : IntKind.u64.wrap (1 * 2 ^ min (Int.toNat (n : Int)) IntKind.u64.bits) = (m : Int) := by
    have hb : IntKind.u64.bits = 64 := rfl
    rw [hb, Int.toNat_natCast, Nat.min_eq_left (by omega), Int.one_mul, u64_wrap, hp]
    omega
  refine pi3 fn75 ?_
  (repeat' first | (refine Owe.same ?_; first | refine Owe.o ?_ | refine Owe.mk ?_ ?_) | (refine Fork.same ?_; (first | refine fkD ?_ ?_ | refine fkN ?_ ?_ | refine fkM ?_ ?_) <;> intro h) | refine MvQ.stay ?_)
  refine Sat.lp0 (fun b : Nat => [(17, vi .u64 b), (16, vi .u64 m), (0, vi .i64 n), (1, .c (.fnR g rows)), (7, .c (ints (bestK c n b).l)), (8, vi .i64 (bestK c n b).p), (9, vbl (bestK c n b).ok)]) (fun b => b ≤ m) (fun b => m - b) 0 (Nat.zero_le _) ?_ ?_
  · ((first | refine qen ?_ | refine qvs ?_ | refine qeq ?_ | refine qst ?_ | refine qv ?_ | refine qc ?_ | refine qe ?_ | refine qcs ?_ | skip); (repeat' first | exact rfl | (refine qS ?_; constructor)))
    exact e1
  · intro b hb
    refine Fork.dec (fun hlt => ?_) (fun hlt => ?_)
    · have hlt : b < m := by omega
      (repeat' first | (refine Owe.same ?_; first | refine Owe.o ?_ | refine Owe.mk ?_ ?_) | (refine Fork.same ?_; (first | refine fkD ?_ ?_ | refine fkN ?_ ?_ | refine fkM ?_ ?_) <;> intro h) | refine MvQ.stay ?_)
      refine Sat.nilS 11 3 1 (fun i => r1 (([] : List Int).getD i 0)) rfl ?_
      refine Sat.lp (fun i : Nat => ⟨[(21, vi .i64 i), (20, vi .i64 n), (10, vi .u64 b), (11, .c (.ms 0 (fltL (fun i => b.testBit i) i).length)), (17, vi .u64 b), (16, vi .u64 m), (0, vi .i64 n), (1, .c (.fnR g rows)), (7, .c (ints (bestK c n b).l)), (8, vi .i64 (bestK c n b).p), (9, vbl (bestK c n b).ok)], [(0, rowv 3 1 r1 0 (fltL (fun i => b.testBit i) i))], 1⟩)
        (fun i => i ≤ n) (fun i => n - i) 0 [0] (Nat.zero_le _) ?_ ?_
      · (refine qis ?_ ?_ <;> (repeat' first | exact rfl | (refine qS ?_; constructor)))
      · intro i hi
        have hfl := fltL_len (fun i => b.testBit i) i
        have hfs := fltL_succ (fun i => b.testBit i) i
        refine Fork.dec (fun hli => ?_) (fun hli => ?_)
        · have hli : i < n := by omega
          have ht := bit_test (b := b) (i := i) (by omega) (by omega)
          (repeat' first | (refine Owe.same ?_; first | refine Owe.o ?_ | refine Owe.mk ?_ ?_) | (refine Fork.same ?_; (first | refine fkD ?_ ?_ | refine fkN ?_ ?_ | refine fkM ?_ ?_) <;> intro h) | refine MvQ.stay ?_)
          · have h : decide _ = true := decide_eq_true h
            rw [ht] at h
            rw [if_pos h] at hfs
            refine again (i + 1) [1] hli (by omega) ?_
            (refine qis ?_ ?_ <;> (repeat' first | exact rfl | (refine qS ?_; constructor)))
            · rw [hfs]; simp
            · exact hfs
          · have h : decide _ = false := decide_eq_false h
            rw [ht] at h
            rw [if_neg (by rw [h]; decide)] at hfs
            refine again (i + 1) [0] hli (by omega) ?_
            (refine qis ?_ ?_ <;> (repeat' first | exact rfl | (refine qS ?_; constructor)))
            · rw [hfs]
            · rw [hfs]
        · have : i = n := by omega
          subst this
          (repeat' first | (refine Owe.same ?_; first | refine Owe.o ?_ | refine Owe.mk ?_ ?_) | (refine Fork.same ?_; (first | refine fkD ?_ ?_ | refine fkN ?_ ?_ | refine fkM ?_ ?_) <;> intro h) | refine MvQ.stay ?_)
          refine OpsL.frz 11 _ rfl rfl (Nat.le_refl _) ?_
          refine OpsL.frz 36 _ rfl rfl (Nat.le_refl _) ?_
          have hgt := hg (subL i b) (by have := fltL_len (fun i => b.testBit i) i; show (fltL (fun i => b.testBit i) i).length ≤ _; omega) (fun x hx => subL_mem hx)
          have hl2 := bestK_len c i b
          (repeat' first | (refine Owe.same ?_; first | refine Owe.o ?_ | refine Owe.mk ?_ ?_) | (refine Fork.same ?_; (first | refine fkD ?_ ?_ | refine fkN ?_ ?_ | refine fkM ?_ ?_) <;> intro h) | ((first | refine OpsL.same ?_ | refine OpsDL.same ?_); first | refine pR hgt rfl rfl ?_) | refine MvQ.stay ?_)
          all_goals (repeat' first | (refine Owe.same ?_; first | refine Owe.o ?_ | refine Owe.mk ?_ ?_) | (refine Fork.same ?_; (first | refine fkD ?_ ?_ | refine fkN ?_ ?_ | refine fkM ?_ ?_) <;> intro h) | ((first | refine OpsL.same ?_ | refine OpsDL.same ?_); first | refine pK C135 rfl rfl ?_ | refine pK C136 rfl rfl ?_ | refine pK C134 rfl rfl ?_) | refine MvQ.stay ?_)
          · rename_i h1
            have e : bestK c i (b + 1) = ⟨subL i b, (c (subL i b)).1, true⟩ := by
              simp only [bestK]; rw [if_pos ⟨h1, .inl (by simpa using h)⟩]
            refine again0 (b + 1) hlt (by omega) ?_
            simp only [e]
            ((first | refine qen ?_ | refine qvs ?_ | refine qeq ?_ | refine qst ?_ | refine qv ?_ | refine qc ?_ | refine qe ?_ | refine qcs ?_ | skip); (repeat' first | exact rfl | (refine qS ?_; constructor)))
            rw [u64_wrap]; omega
          · rename_i h1 h2
            have e : bestK c i (b + 1) = ⟨subL i b, (c (subL i b)).1, true⟩ := by
              simp only [bestK]; rw [if_pos ⟨h1, .inr h⟩]
            refine again0 (b + 1) hlt (by omega) ?_
            simp only [e]
            ((first | refine qen ?_ | refine qvs ?_ | refine qeq ?_ | refine qst ?_ | refine qv ?_ | refine qc ?_ | refine qe ?_ | refine qcs ?_ | skip); (repeat' first | exact rfl | (refine qS ?_; constructor)))
            rw [u64_wrap]; omega
          · rename_i h1 h2
            have e : bestK c i (b + 1) = bestK c i b := by
              simp only [bestK]; rw [if_neg]
              rintro ⟨_, h3 | h3⟩
              · rw [h3] at h2; cases h2
              · exact h h3
            refine again0 (b + 1) hlt (by omega) ?_
            simp only [e]
            ((first | refine qen ?_ | refine qvs ?_ | refine qeq ?_ | refine qst ?_ | refine qv ?_ | refine qc ?_ | refine qe ?_ | refine qcs ?_ | skip); (repeat' first | exact rfl | (refine qS ?_; constructor)))
            rw [u64_wrap]; omega
          · have e : bestK c i (b + 1) = bestK c i b := by
              simp only [bestK]; rw [if_neg]
              rintro ⟨h3, _⟩
              rw [h] at h3; cases h3
            refine again0 (b + 1) hlt (by omega) ?_
            simp only [e]
            ((first | refine qen ?_ | refine qvs ?_ | refine qeq ?_ | refine qst ?_ | refine qv ?_ | refine qc ?_ | refine qe ?_ | refine qcs ?_ | skip); (repeat' first | exact rfl | (refine qS ?_; constructor)))
            rw [u64_wrap]; omega
    · have : b = m := by omega
      subst this
      (repeat' first | (refine Owe.same ?_; first | refine Owe.o ?_ | refine Owe.mk ?_ ?_) | (refine Fork.same ?_; (first | refine fkD ?_ ?_ | refine fkN ?_ ?_ | refine fkM ?_ ?_) <;> intro h) | refine MvQ.stay ?_)
      (refine rqK rfl ?_; (repeat' first | exact rfl | (refine qS ?_; constructor)))
end Go.Pw

set_option linter.unusedSimpArgs false
set_option linter.unusedVariables false
namespace Go.Pw
set_option maxRecDepth 2000
open Go Go.Proofs A1 A2 A3 A4
abbrev Dv := Int × Int × Int
abbrev tr (d : Dv) : V := .agg [int d.1, int d.2.1, int d.2.2]
/-- A device in range. -/
abbrev dvOk (d : Dv) : Prop := (0 ≤ d.1 ∧ d.1 ≤ 20) ∧ (1 ≤ d.2.1 ∧ d.2.1 ≤ 10) ∧ 0 ≤ d.2.2 ∧ d.2.2 ≤ 10
abbrev win (d : Dv) : Int := d.2.1 + d.2.2
abbrev dist (a b : Dv) : Bool := decide (max (a.1 - b.1) (-(a.1 - b.1)) ≤ 1)
theorem C77 {a b : Dv} : (dvOk a ∧ dvOk b) → PFD Tryz.prog 77 [tr a, tr b] (vbl (dist a b)) := fun ⟨ha, hb⟩ => by
  refine pi1 fn77 ?_
  (repeat' first | (refine Owe.same ?_; first | refine Owe.o ?_ | refine Owe.mk ?_ ?_) | (refine Fork.same ?_; (first | refine fkD ?_ ?_ | refine fkN ?_ ?_ | refine fkM ?_ ?_) <;> intro h) | ((first | refine OpsL.same ?_ | refine OpsDL.same ?_); first | refine pK C137 rfl rfl ?_) | refine MvQ.stay ?_)
  (refine rqK rfl ?_; (repeat' first | exact rfl | (refine qS ?_; constructor)))
theorem C78 {d : Dv} : dvOk d → PFD Tryz.prog 78 [tr d] (vi .i64 (win d)) := fun h => by
  refine pi1 fn78 ?_
  (repeat' first | (refine Owe.same ?_; first | refine Owe.o ?_ | refine Owe.mk ?_ ?_) | (refine Fork.same ?_; (first | refine fkD ?_ ?_ | refine fkN ?_ ?_ | refine fkM ?_ ?_) <;> intro h) | refine MvQ.stay ?_)
  (refine rqK rfl ?_; (repeat' first | exact rfl | (refine qS ?_; constructor)))
def cyE (n : Int) : Int := unl (1 ≤ n ∧ n ≤ 40) 2
theorem C73 {n : Int} : PFD Tryz.prog 73 [vi .i64 n] (vi .i64 (cyE n)) := by
  refine pi1 fn73 ?_
  (repeat' first | (refine Owe.same ?_; first | refine Owe.o ?_ | refine Owe.mk ?_ ?_) | (refine Fork.same ?_; (first | refine fkD ?_ ?_ | refine fkN ?_ ?_ | refine fkM ?_ ?_) <;> intro h) | ((first | refine OpsL.same ?_ | refine OpsDL.same ?_); first | refine pK C84 rfl rfl ?_ | refine pK C85 rfl rfl ?_) | refine MvQ.stay ?_)
  (refine rqK rfl ?_; (repeat' first | exact rfl | (refine qS ?_; constructor)))
def dvE (d : Dv) : Int := unl (dvOk d) 2
theorem C83 {i : Int} {d : Dv} : PFD Tryz.prog 83 [vi .i64 i, tr d] (vi .i64 (dvE d)) := by
  refine pi1 fn83 ?_
  (repeat' first | (refine Owe.same ?_; first | refine Owe.o ?_ | refine Owe.mk ?_ ?_) | (refine Fork.same ?_; (first | refine fkD ?_ ?_ | refine fkN ?_ ?_ | refine fkM ?_ ?_) <;> intro h) | ((first | refine OpsL.same ?_ | refine OpsDL.same ?_); first | refine pK C84 rfl rfl ?_ | refine pK C85 rfl rfl ?_) | refine MvQ.stay ?_)
  all_goals ((refine rqK rfl ?_; (repeat' first | exact rfl | (refine qS ?_; constructor))); rw [dvE]; refine congrArg (fun b => unb b 2) ?_; rw [Bool.eq_iff_iff]; (try simp only [decide_eq_true_eq, Bool.false_eq_true, false_iff]); omega)
theorem C82 {g : FuncId} {f : Dv → Int} (hg : ∀ (i : Int) (x : Dv), PFD Tryz.prog g [vi .i64 i, tr x] (vi .i64 (f x))) {l : List Dv} : l.length ≤ 1000000 → PFD Tryz.prog 82 [.c (trs l), .c (.fn g [])] (.tup [vi .i64 (eachE f 0 l).1, vi .i64 (eachE f 0 l).2]) := fun hl => by
  refine pi2 fn82 ?_
  (repeat' first | (refine Owe.same ?_; first | refine Owe.o ?_ | refine Owe.mk ?_ ?_) | (refine Fork.same ?_; (first | refine fkD ?_ ?_ | refine fkN ?_ ?_ | refine fkM ?_ ?_) <;> intro h) | refine MvQ.stay ?_)
  refine Sat.lp0 (fun k : Nat => [(11, vi .i64 k), (10, vi .i64 l.length), (9, .c (trs l)), (1, .c (.fn g []))]) (fun k => k ≤ l.length ∧ eachE f 0 l = eachE f k (l.drop k)) (fun k => l.length - k) 0 ⟨Nat.zero_le _, rfl⟩ (by ((first | refine qen ?_ | refine qvs ?_ | refine qeq ?_ | refine qst ?_ | refine qv ?_ | refine qc ?_ | refine qe ?_ | refine qcs ?_ | skip); (repeat' first | exact rfl | (refine qS ?_; constructor)))) ?_
  intro k hk
  (repeat' first | (refine Owe.same ?_; first | refine Owe.o ?_ | refine Owe.mk ?_ ?_) | (refine Fork.same ?_; (first | refine fkD ?_ ?_ | refine fkN ?_ ?_ | refine fkM ?_ ?_) <;> intro h) | ((first | refine OpsL.same ?_ | refine OpsDL.same ?_); first | refine pK (hg _ _) rfl rfl ?_) | refine MvQ.stay ?_)
  · have e := eachE_drop f (0, 0, 0) l k (by omega)
    have h : ¬ f (l.getD k (0, 0, 0)) = 0 := h
    rw [if_neg h, ← hk.2] at e
    (refine rqK rfl ?_; (repeat' first | exact rfl | (refine qS ?_; constructor))) <;> rw [e] <;> rfl
  · have e := eachE_drop f (0, 0, 0) l k (by omega)
    have h : f (l.getD k (0, 0, 0)) = 0 := h
    rw [if_pos h, ← hk.2] at e
    exact again0 (k + 1) ⟨by omega, e⟩ (by omega) (by ((first | refine qen ?_ | refine qvs ?_ | refine qeq ?_ | refine qst ?_ | refine qv ?_ | refine qc ?_ | refine qe ?_ | refine qcs ?_ | skip); (repeat' first | exact rfl | (refine qS ?_; constructor))))
  · have e : eachE f 0 l = (0, 0) := by rw [hk.2, List.drop_of_length_le (by omega)]; rfl
    (refine rqK rfl ?_; (repeat' first | exact rfl | (refine qS ?_; constructor))) <;> rw [e]
/-- The error of devices, with an index. -/
def dvsE (l : List Dv) : Int × Int := if cntE l.length 5 = 0 then eachE dvE 0 l else (0, cntE l.length 5)
theorem C25 {l : List Dv} : l.length ≤ 1000000 → PFD Tryz.prog 25 [.c (trs l)] (.tup [vi .i64 (dvsE l).1, vi .i64 (dvsE l).2]) := fun hl => by
  have c1 := C82 (fun i x => C83 (i := i) (d := x)) hl
  refine pi2 fn25 ?_
  (repeat' first | (refine Owe.same ?_; first | refine Owe.o ?_ | refine Owe.mk ?_ ?_) | (refine Fork.same ?_; (first | refine fkD ?_ ?_ | refine fkN ?_ ?_ | refine fkM ?_ ?_) <;> intro h) | ((first | refine OpsL.same ?_ | refine OpsDL.same ?_); first | refine pK C81 rfl rfl ?_ | refine pK c1 rfl rfl ?_) | refine MvQ.stay ?_)
  · have h : ¬ cntE l.length 5 = 0 := h
    (refine rqK rfl ?_; (repeat' first | exact rfl | (refine qS ?_; constructor))) <;> rw [dvsE, if_neg h]
  · have h : cntE l.length 5 = 0 := h
    (refine rqK rfl ?_; (repeat' first | exact rfl | (refine qS ?_; constructor))) <;> rw [dvsE, if_pos h]
theorem C72 {l : List Dv} : l.length ≤ 1000000 → PFD Tryz.prog 72 [.c (trs l)] (vi .i64 (dvsE l).2) := fun hl => by
  refine pi1 fn72 ?_
  (repeat' first | (refine Owe.same ?_; first | refine Owe.o ?_ | refine Owe.mk ?_ ?_) | (refine Fork.same ?_; (first | refine fkD ?_ ?_ | refine fkN ?_ ?_ | refine fkM ?_ ?_) <;> intro h) | ((first | refine OpsL.same ?_ | refine OpsDL.same ?_); first | refine pK C25 rfl rfl ?_) | refine MvQ.stay ?_)
  (refine rqK rfl ?_; (repeat' first | exact rfl | (refine qS ?_; constructor)))
theorem cntE_ok {n m : Int} : cntE n m = 0 ↔ 0 < n ∧ n ≤ m := by
  rw [cntE, fst0, fst0]
  simp only [unl0 (show (10 : Int) ≠ 0 by decide), unl0 (show (8 : Int) ≠ 0 by decide), fst_nil, and_true]
/-- Valid devices. -/
structure DvOk (l : List Dv) : Prop where
  n : 0 < l.length ∧ l.length ≤ 5
  d : ∀ i, i < l.length → dvOk (l.getD i (0, 0, 0))
theorem dvsE_ok {l : List Dv} : (dvsE l).2 = 0 ↔ DvOk l := by
  constructor
  · intro h
    by_cases h0 : cntE l.length 5 = 0
    · rw [dvsE, if_pos h0, eachE_ok] at h
      have := cntE_ok.1 h0
      exact ⟨by omega, fun i hi => by have := h _ (getD_mem (0, 0, 0) hi); rwa [dvE, unl0 (by decide)] at this⟩
    · rw [dvsE, if_neg h0] at h; exact absurd h h0
  · intro h
    have h0 : cntE l.length 5 = 0 := cntE_ok.2 (by have := h.n; omega)
    rw [dvsE, if_pos h0, eachE_ok]
    intro x hx
    obtain ⟨i, hi, rfl⟩ := List.getElem_of_mem hx
    have := h.d i hi
    rw [List.getD_eq_getElem?_getD, List.getElem?_eq_getElem hi] at this
    rw [dvE, unl0 (by decide)]; exact this
abbrev dv (l : List Dv) (i : Int) : Dv := l.getD i.toNat (0, 0, 0)
/-- The devices of a set disturb each other, up to one of them. -/
def pwB (l : List Dv) (t : List Int) (k : Nat) : Bool := (List.range k).all fun i => (List.range i).all fun j => dist (dv l (t.getD i 0)) (dv l (t.getD j 0))
def wnS (l : List Dv) (t : List Int) : Nat → Int
  | 0 => 0
  | k + 1 => wnS l t k - win (dv l (t.getD k 0))
theorem pwB_succ (l : List Dv) (t : List Int) (k : Nat) : pwB l t (k + 1) = (pwB l t k && (List.range k).all fun j => dist (dv l (t.getD k 0)) (dv l (t.getD j 0))) := by
  simp [pwB, List.range_succ]
def bdC (l : List Dv) (t : List Int) : Int × Bool := if pwB l t t.length = true then (wnS l t t.length, true) else (0, false)
theorem wnS_bd {l : List Dv} {t : List Int} (hl : DvOk l) (ht : ∀ x ∈ t, 0 ≤ x ∧ x < l.length) : ∀ k, k ≤ t.length → -(20 * (k : Int)) ≤ wnS l t k ∧ wnS l t k ≤ 0
  | 0, _ => by simp [wnS]
  | k + 1, hk => by
    have ih := wnS_bd hl ht k (by omega)
    have h1 := ht _ (getD_mem 0 (show k < t.length by omega))
    have h2 := hl.d (t.getD k 0).toNat (by omega)
    simp only [wnS, win, dv]; omega
theorem pwB_le {l : List Dv} {t : List Int} {k m : Nat} (hkm : k ≤ m) (h : pwB l t m = true) : pwB l t k = true := by
  simp only [pwB, List.all_eq_true, List.mem_range] at h ⊢
  exact fun i hi j hj => h i (by omega) j hj
theorem C76 {l : List Dv} {t : List Int} (hl : DvOk l) (htl : t.length ≤ 1000000) (ht : ∀ x ∈ t, 0 ≤ x ∧ x < l.length) : PFD Tryz.prog 76 [.c (ints t), .c (.rp [.sl 3 l.length fun i => r3 (l.getD i (0, 0, 0))])] (.tup [vi .i64 (bdC l t).1, vbl (bdC l t).2]) := by
  have hn := hl.n
  refine pi2 fn76 ?_
  (repeat' first | (refine Owe.same ?_; first | refine Owe.o ?_ | refine Owe.mk ?_ ?_) | (refine Fork.same ?_; (first | refine fkD ?_ ?_ | refine fkN ?_ ?_ | refine fkM ?_ ?_) <;> intro h) | refine MvQ.stay ?_)
  refine Sat.lp0 (fun k : Nat => [(12, vi .i64 k), (11, vi .i64 t.length), (10, .c (ints t)), (0, .c (ints t)), (1, .c (.rp [.sl 3 l.length fun i => r3 (l.getD i (0, 0, 0))])), (5, vi .i64 (wnS l t k))]) (fun k => k ≤ t.length ∧ pwB l t k = true) (fun k => t.length - k) 0 ⟨Nat.zero_le _, rfl⟩ (by ((first | refine qen ?_ | refine qvs ?_ | refine qeq ?_ | refine qst ?_ | refine qv ?_ | refine qc ?_ | refine qe ?_ | refine qcs ?_ | skip); (repeat' first | exact rfl | (refine qS ?_; constructor)))) ?_
  intro k hk
  have hb := wnS_bd hl ht k hk.1
  refine Fork.dec (fun hlt => ?_) (fun hlt => ?_)
  · have hlt : k < t.length := by omega
    have h1 := ht _ (getD_mem 0 hlt)
    have h2 := hl.d (t.getD k 0).toNat (by omega)
    (repeat' first | (refine Owe.same ?_; first | refine Owe.o ?_ | refine Owe.mk ?_ ?_) | (refine Fork.same ?_; (first | refine fkD ?_ ?_ | refine fkN ?_ ?_ | refine fkM ?_ ?_) <;> intro h) | refine MvQ.stay ?_)
    refine Sat.lp0 (fun j : Nat => [(21, vi .i64 j), (20, vi .i64 k), (19, .c (.d (.sl 1 k fun i => r1 (t.getD i 0)))), (7, vi .i64 (t.getD k 0)), (12, vi .i64 k), (11, vi .i64 t.length), (10, .c (ints t)), (0, .c (ints t)), (1, .c (.rp [.sl 3 l.length fun i => r3 (l.getD i (0, 0, 0))])), (5, vi .i64 (wnS l t k))]) (fun j => j ≤ k ∧ (List.range j).all (fun j => dist (dv l (t.getD k 0)) (dv l (t.getD j 0))) = true) (fun j => k - j) 0 ⟨Nat.zero_le _, rfl⟩ (by ((first | refine qen ?_ | refine qvs ?_ | refine qeq ?_ | refine qst ?_ | refine qv ?_ | refine qc ?_ | refine qe ?_ | refine qcs ?_ | skip); (repeat' first | exact rfl | (refine qS ?_; constructor)))) ?_
    intro j hj
    refine Fork.dec (fun hlj => ?_) (fun hlj => ?_)
    · have hlj : j < k := by omega
      have h3 := ht _ (getD_mem 0 (show j < t.length by omega))
      have h4 := hl.d (t.getD j 0).toNat (by omega)
      have c97 : PFD Tryz.prog 77 _ _ := C77 (a := dv l (t.getD k 0)) (b := dv l (t.getD j 0)) ⟨h2, h4⟩
      (repeat' first | (refine Owe.same ?_; first | refine Owe.o ?_ | refine Owe.mk ?_ ?_) | (refine Fork.same ?_; (first | refine fkD ?_ ?_ | refine fkN ?_ ?_ | refine fkM ?_ ?_) <;> intro h) | ((first | refine OpsL.same ?_ | refine OpsDL.same ?_); first | refine pK c97 rfl rfl ?_) | refine MvQ.stay ?_)
      · have h : dist (dv l (t.getD k 0)) (dv l (t.getD j 0)) = false := decide_eq_false h
        have e : bdC l t = (0, false) := by
          rw [bdC, if_neg]
          intro hp
          have := pwB_le (show k + 1 ≤ t.length by omega) hp
          rw [pwB_succ, Bool.and_eq_true] at this
          have := (List.all_eq_true.1 this.2) j (List.mem_range.2 hlj)
          rw [h] at this; cases this
        (refine rqK rfl ?_; (repeat' first | exact rfl | (refine qS ?_; constructor))) <;> rw [e]
      · have h : dist (dv l (t.getD k 0)) (dv l (t.getD j 0)) = true := decide_eq_true h
        refine again0 (j + 1) ⟨hlj, ?_⟩ (by omega) (by ((first | refine qen ?_ | refine qvs ?_ | refine qeq ?_ | refine qst ?_ | refine qv ?_ | refine qc ?_ | refine qe ?_ | refine qcs ?_ | skip); (repeat' first | exact rfl | (refine qS ?_; constructor))))
        rw [List.range_succ, List.all_append, hj.2]
        simp only [List.all_cons, List.all_nil, Bool.and_true, Bool.true_and]; exact h
    · have : j = k := by omega
      subst this
      have c98 : PFD Tryz.prog 78 _ _ := C78 (d := dv l (t.getD j 0)) h2
      have hw : 1 ≤ win (dv l (t.getD j 0)) ∧ win (dv l (t.getD j 0)) ≤ 20 := by simp only [win, dv]; omega
      (repeat' first | (refine Owe.same ?_; first | refine Owe.o ?_ | refine Owe.mk ?_ ?_) | (refine Fork.same ?_; (first | refine fkD ?_ ?_ | refine fkN ?_ ?_ | refine fkM ?_ ?_) <;> intro h) | ((first | refine OpsL.same ?_ | refine OpsDL.same ?_); first | refine pK c98 rfl rfl ?_) | refine MvQ.stay ?_)
      exact again0 (j + 1) ⟨hlt, by rw [pwB_succ, hk.2, hj.2]; rfl⟩ (by omega) (by ((first | refine qen ?_ | refine qvs ?_ | refine qeq ?_ | refine qst ?_ | refine qv ?_ | refine qc ?_ | refine qe ?_ | refine qcs ?_ | skip); (repeat' first | exact rfl | (refine qS ?_; constructor))))
  · have : k = t.length := by omega
    subst this
    (repeat' first | (refine Owe.same ?_; first | refine Owe.o ?_ | refine Owe.mk ?_ ?_) | (refine Fork.same ?_; (first | refine fkD ?_ ?_ | refine fkN ?_ ?_ | refine fkM ?_ ?_) <;> intro h) | refine MvQ.stay ?_)
    have e : bdC l t = (wnS l t t.length, true) := by rw [bdC, if_pos hk.2]
    (refine rqK rfl ?_; (repeat' first | exact rfl | (refine qS ?_; constructor))) <;> rw [e]
/-- The best set for the bound. -/
abbrev bdK (l : List Dv) : BSt := bestK (bdC l) l.length (2 ^ l.length)
theorem bestK_lo {c : List Int → Int × Bool} {n : Nat} {lo : Int} (hlo : lo ≤ 0) (h : ∀ b, lo ≤ (c (subL n b)).1 ∧ (c (subL n b)).1 ≤ 0) : ∀ b, lo ≤ (bestK c n b).p ∧ (bestK c n b).p ≤ 0
  | 0 => by simp [bestK, hlo]
  | b + 1 => by
    have ih := bestK_lo hlo h b
    simp only [bestK]
    split
    · exact h b
    · exact ih
theorem bdC_bd {l : List Dv} (hl : DvOk l) (b : Nat) : -100 ≤ (bdC l (subL l.length b)).1 ∧ (bdC l (subL l.length b)).1 ≤ 0 := by
  have h1 := wnS_bd hl (t := subL l.length b) (fun x hx => subL_mem hx) _ (Nat.le_refl _)
  have h2 : (subL l.length b).length ≤ l.length := fltL_len _ _
  have h3 := hl.n
  rw [bdC]
  split
  · simp only; omega
  · simp
theorem C18 {l : List Dv} : l.length ≤ 1000000 → PFD Tryz.prog 18 [.c (trs l)] (.tup [.c (ints (if (dvsE l).2 = 0 then (bdK l).l else [])), vi .i64 (if (dvsE l).2 = 0 then -(bdK l).p else 0), vi .i64 (dvsE l).2]) := fun hl => by
  have c1 := C72 hl
  by_cases h0 : (dvsE l).2 = 0
  · have hO := dvsE_ok.1 h0
    have hn := hO.n
    have c2 := C75 (g := 76) (rows := [[.sl 3 l.length fun i => r3 (l.getD i (0, 0, 0))]]) (c := bdC l) (n := l.length) (fun t ht hx => C76 hO ht hx) (show l.length ≤ 20 by omega)
    have hp := bestK_lo (c := bdC l) (n := l.length) (lo := -100) (by decide) (fun b => bdC_bd hO b) (2 ^ l.length)
    rw [if_pos h0, if_pos h0]
    rw [h0] at c1
    refine pi3 fn18 ?_
    (repeat' first | (refine Owe.same ?_; first | refine Owe.o ?_ | refine Owe.mk ?_ ?_) | (refine Fork.same ?_; (first | refine fkD ?_ ?_ | refine fkN ?_ ?_ | refine fkM ?_ ?_) <;> intro h) | ((first | refine OpsL.same ?_ | refine OpsDL.same ?_); first | refine pK c1 rfl rfl ?_ | refine pK c2 rfl rfl ?_) | refine MvQ.stay ?_)
    · exact absurd rfl h
    · (refine rqK rfl ?_; (repeat' first | exact rfl | (refine qS ?_; constructor)))
      exact h0.symm
  · rw [if_neg h0, if_neg h0]
    refine pi3 fn18 ?_
    (repeat' first | (refine Owe.same ?_; first | refine Owe.o ?_ | refine Owe.mk ?_ ?_) | (refine Fork.same ?_; (first | refine fkD ?_ ?_ | refine fkN ?_ ?_ | refine fkM ?_ ?_) <;> intro h) | ((first | refine OpsL.same ?_ | refine OpsDL.same ?_); first | refine pK c1 rfl rfl ?_) | refine MvQ.stay ?_)
    · (refine rqK rfl ?_; (repeat' first | exact rfl | (refine qS ?_; constructor)))
    · exact absurd h h0
end Go.Pw

set_option linter.unusedSimpArgs false
set_option linter.unusedVariables false
namespace Go.Pw
set_option maxRecDepth 2000
open Go Go.Proofs A1 A2 A3 A4
theorem tmod_nn {a b : Int} (ha : 0 ≤ a) (hb : 0 < b) : a.tmod b = a % b ∧ 0 ≤ a % b ∧ a % b < b := ⟨Int.tmod_eq_emod_of_nonneg ha, Int.emod_nonneg _ (by omega), Int.emod_lt_of_pos _ hb⟩
/-- Whether two windows have a common tick. -/
def mtB (a b : Dv) (s t c : Int) : Bool := decide ((t - s + c) % c < win a) || decide ((c - (t - s + c) % c) % c < win b)
theorem C138 {a b : Dv} {s t c : Int} : ((dvOk a ∧ dvOk b) ∧ (0 < c ∧ c ≤ 40) ∧ (0 ≤ s ∧ s < c) ∧ 0 ≤ t ∧ t < c) → PFD Tryz.prog 138 [tr a, tr b, vi .i64 s, vi .i64 t, vi .i64 c] (vbl (mtB a b s t c)) := fun ⟨⟨ha, hb⟩, hc, hs, ht⟩ => by
  obtain ⟨e1, e2, e3⟩ := tmod_nn (a := t - s + c) (b := c) (by omega) hc.1
  obtain ⟨e4, e5, e6⟩ := tmod_nn (a := c - (t - s + c) % c) (b := c) (by omega) hc.1
  rw [← e1] at e2 e3 e4 e5 e6
  have e : mtB a b s t c = (decide ((t - s + c).tmod c < win a) || decide ((c - (t - s + c).tmod c).tmod c < win b)) := by rw [e4, e1]; rfl
  rw [e]
  refine pi1 fn138 ?_
  (repeat' first | (refine Owe.same ?_; first | refine Owe.o ?_ | refine Owe.mk ?_ ?_) | (refine Fork.same ?_; (first | refine fkD ?_ ?_ | refine fkN ?_ ?_ | refine fkM ?_ ?_) <;> intro h) | ((first | refine OpsL.same ?_ | refine OpsDL.same ?_); first | refine pK C78 rfl rfl ?_) | refine MvQ.stay ?_)
  · (refine rqK rfl ?_; (repeat' first | exact rfl | (refine qS ?_; constructor)))
    rw [decide_eq_true h]; rfl
  · (refine rqK rfl ?_; (repeat' first | exact rfl | (refine qS ?_; constructor)))
    rw [decide_eq_false h]; rfl
theorem C133 {l : List Int} : l.length ≤ 1000000 → PFD Tryz.prog 133 [.c (ints l)] (.c (.cl 1 l.length fun i => r1 (l.getD i 0))) := fun hl => by
  refine pi1 fn133 ?_
  (repeat' first | (refine Owe.same ?_; first | refine Owe.o ?_ | refine Owe.mk ?_ ?_) | (refine Fork.same ?_; (first | refine fkD ?_ ?_ | refine fkN ?_ ?_ | refine fkM ?_ ?_) <;> intro h) | refine MvQ.stay ?_)
  (refine rqK rfl ?_; (repeat' first | exact rfl | (refine qS ?_; constructor)))
/-- Whether two devices blind each other, or one itself. -/
def blB (l : List Dv) (st : List Int) (i k : Nat) (c : Int) : Bool :=
  if i = k then decide (c < win (l.getD i (0, 0, 0))) else dist (l.getD i (0, 0, 0)) (l.getD k (0, 0, 0)) && mtB (l.getD i (0, 0, 0)) (l.getD k (0, 0, 0)) (st.getD i 0) (st.getD k 0) c
/-- Starts within a cycle. -/
abbrev stOk (st : List Int) (c : Int) : Prop := ∀ i, i < st.length → 0 ≤ st.getD i 0 ∧ st.getD i 0 < c
theorem C88 {l : List Dv} {st : List Int} {i k : Nat} {c : Int} : (DvOk l ∧ (0 < c ∧ c ≤ 40) ∧ stOk st c ∧ (i < l.length ∧ k < l.length) ∧ i < st.length ∧ k < st.length) → PFD Tryz.prog 88 [.c (trs l), .c (ints st), vi .i64 i, vi .i64 k, vi .i64 c] (vbl (blB l st i k c)) := fun ⟨hl, hc, hs, hi, hst⟩ => by
  have h1 := hl.d i hi.1
  have h2 := hl.d k hi.2
  have h3 := hs i hst.1
  have h4 := hs k hst.2
  have c98 : PFD Tryz.prog 78 _ _ := C78 (d := l.getD i (0, 0, 0)) h1
  have c97 : PFD Tryz.prog 77 _ _ := C77 (a := l.getD i (0, 0, 0)) (b := l.getD k (0, 0, 0)) ⟨h1, h2⟩
  have c128 : PFD Tryz.prog 138 _ _ := C138 (a := l.getD i (0, 0, 0)) (b := l.getD k (0, 0, 0)) (s := st.getD i 0) (t := st.getD k 0) (c := c) ⟨⟨h1, h2⟩, hc, h3, h4⟩
  refine pi1 fn88 ?_
  (repeat' first | (refine Owe.same ?_; first | refine Owe.o ?_ | refine Owe.mk ?_ ?_) | (refine Fork.same ?_; (first | refine fkD ?_ ?_ | refine fkN ?_ ?_ | refine fkM ?_ ?_) <;> intro h) | ((first | refine OpsL.same ?_ | refine OpsDL.same ?_); first | refine pK c98 rfl rfl ?_ | refine pK c97 rfl rfl ?_ | refine pK c128 rfl rfl ?_) | refine MvQ.stay ?_)
  · have : i = k := by omega
    subst this
    (refine rqK rfl ?_; (repeat' first | exact rfl | (refine qS ?_; constructor)))
    rw [blB, if_pos rfl]
  · rename_i h5
    have h : dist (l.getD i (0, 0, 0)) (l.getD k (0, 0, 0)) = true := decide_eq_true h
    (refine rqK rfl ?_; (repeat' first | exact rfl | (refine qS ?_; constructor)))
    rw [blB, if_neg (by omega), h]; rfl
  · rename_i h5
    have h : dist (l.getD i (0, 0, 0)) (l.getD k (0, 0, 0)) = false := decide_eq_false h
    (refine rqK rfl ?_; (repeat' first | exact rfl | (refine qS ?_; constructor)))
    rw [blB, if_neg (by omega), h]; rfl
def tryL (g : Nat → Option (Option (List Int))) : Nat → Nat → Option (List Int)
  | 0, _ => none
  | r + 1, n => match g n with
    | none => tryL g r (n + 1)
    | some o => o
/-- A device that is placed blinds one before it, or itself. -/
def blk (l : List Dv) (st : List Int) (c : Int) (k : Nat) : Bool := (List.range k).any fun j => blB l st j (st.length - 1) c
def plS (l : List Dv) (c : Nat) : Nat → List Int → Option (List Int)
  | 0, st => some st
  | f + 1, st => tryL (fun n => if blk l (st ++ [(n : Int)]) c (st.length + 1) = true then none else match plS l c f (st ++ [(n : Int)]) with
    | some o => some (some o)
    | none => if st.length = 0 then some none else none) c 0
def plV : Option (List Int) → V
  | none => .c (.d (.v (.slice none 0 0)))
  | some o => .c (ints o)
theorem tryL_pos {g : Nat → Option (Option (List Int))} {P : List Int → Prop} (h : ∀ n o, g n = some (some o) → P o) : ∀ (r n : Nat) (o : List Int), tryL g r n = some o → P o
  | 0, n, o, e => by cases e
  | r + 1, n, o, e => by
    rw [tryL] at e
    split at e
    · exact tryL_pos h r (n + 1) o e
    · rename_i q hq
      subst e
      exact h n o hq
theorem plS_len {l : List Dv} {c : Nat} : ∀ (f : Nat) (st o : List Int), plS l c f st = some o → o.length = st.length + f
  | 0, st, o, h => by simp only [plS, Option.some.injEq] at h; subst h; rfl
  | f + 1, st, o, h => by
    rw [plS] at h
    refine tryL_pos (P := fun o => o.length = st.length + (f + 1)) (fun n o hn => ?_) _ _ _ h
    split at hn
    · cases hn
    · split at hn
      · rename_i o' ho
        cases hn
        have := plS_len f _ _ ho
        simp at this; omega
      · split at hn <;> cases hn
theorem stOk_app {st : List Int} {c : Int} {n : Int} (h : stOk st c) (hn : 0 ≤ n ∧ n < c) : stOk (st ++ [n]) c := fun i hi => by
  rw [List.length_append] at hi
  by_cases h1 : i < st.length
  · have := h i h1
    simpa [List.getD_eq_getElem?_getD, List.getElem?_append_left h1] using this
  · have : i = st.length := by simp at hi; omega
    subst this
    simpa [List.getD_eq_getElem?_getD] using hn
/-- What a first start leads to. -/
def plG (l : List Dv) (c f : Nat) (st : List Int) (n : Nat) : Option (Option (List Int)) := if blk l (st ++ [(n : Int)]) c (st.length + 1) = true then none else match plS l c f (st ++ [(n : Int)]) with
    | some o => some (some o)
    | none => if st.length = 0 then some none else none
theorem plS_succ (l : List Dv) (c f : Nat) (st : List Int) : plS l c (f + 1) st = tryL (plG l c f st) c 0 := rfl
theorem blk_succ (l : List Dv) (st : List Int) (c : Int) (k : Nat) : blk l st c (k + 1) = (blk l st c k || blB l st k (st.length - 1) c) := by
  simp [blk, List.range_succ]
theorem blk_le {l : List Dv} {st : List Int} {c : Int} {k m : Nat} (hkm : k < m) (h : blB l st k (st.length - 1) c = true) : blk l st c m = true := by
  rw [blk, List.any_eq_true]; exact ⟨k, List.mem_range.2 hkm, h⟩
theorem C74 {l : List Dv} {c : Nat} (hl : DvOk l) (hc : 0 < c ∧ c ≤ 40) : ∀ (f : Nat) (st : List Int), st.length + f = l.length → stOk st c → PFD Tryz.prog 74 [.c (trs l), .c (ints st), vi .i64 c] (plV (plS l c f st))
  | 0, st, hf, hs => by
    have hn := hl.n
    rw [plS, plV]
    refine pi1 fn74 ?_
    (repeat' first | (refine Owe.same ?_; first | refine Owe.o ?_ | refine Owe.mk ?_ ?_) | (refine Fork.same ?_; (first | refine fkD ?_ ?_ | refine fkN ?_ ?_ | refine fkM ?_ ?_) <;> intro h) | refine MvQ.stay ?_)
    · (refine rqK rfl ?_; (repeat' first | exact rfl | (refine qS ?_; constructor)))
    · exfalso; omega
  | f + 1, st, hf, hs => by
    have hn := hl.n
    have ih := C74 hl hc f
    rw [plS_succ]
    obtain ⟨q, hq⟩ : ∃ q, tryL (plG l c f st) c 0 = q := ⟨_, rfl⟩
    rw [hq]
    refine pi1 fn74 ?_
    (repeat' first | (refine Owe.same ?_; first | refine Owe.o ?_ | refine Owe.mk ?_ ?_) | (refine Fork.same ?_; (first | refine fkD ?_ ?_ | refine fkN ?_ ?_ | refine fkM ?_ ?_) <;> intro h) | refine MvQ.stay ?_)
    · exfalso; omega
    refine Sat.lp0 (fun n : Nat => [(20, vi .i64 n), (19, vi .i64 c), (0, .c (trs l)), (1, .c (ints st)), (2, vi .i64 c), (7, vi .i64 st.length)]) (fun n => n ≤ c ∧ q = tryL (plG l c f st) (c - n) n) (fun n => c - n) 0 ⟨Nat.zero_le _, hq.symm⟩ (by ((first | refine qen ?_ | refine qvs ?_ | refine qeq ?_ | refine qst ?_ | refine qv ?_ | refine qc ?_ | refine qe ?_ | refine qcs ?_ | skip); (repeat' first | exact rfl | (refine qS ?_; constructor)))) ?_
    intro n hn'
    have he := hn'.2
    refine Fork.dec (fun hlt => ?_) (fun hlt => ?_)
    · have hlt : n < c := by omega
      rw [show c - n = (c - (n + 1)) + 1 by omega, tryL] at he
      have hln : (st ++ [(n : Int)]).length = st.length + 1 := by simp
      have hso : stOk (st ++ [(n : Int)]) c := stOk_app hs (by omega)
      (repeat' first | (refine Owe.same ?_; first | refine Owe.o ?_ | refine Owe.mk ?_ ?_) | (refine Fork.same ?_; (first | refine fkD ?_ ?_ | refine fkN ?_ ?_ | refine fkM ?_ ?_) <;> intro h) | ((first | refine OpsL.same ?_ | refine OpsDL.same ?_); first | refine pK C133 rfl rfl ?_) | refine MvQ.stay ?_)
      refine SatL.as 9 (.c (ints (st ++ [(n : Int)]))) (QQ.sound (.dapp ⟨_, rfl, rfl⟩)) ?_
      refine SatL.as 28 (.c (ints (st ++ [(n : Int)]))) (QQ.sound (.dapp ⟨_, rfl, rfl⟩)) ?_
      refine Sat.lp0 (fun k : Nat => [(30, vi .i64 k), (29, vi .i64 (st.length + 1 : Nat)), (28, .c (ints (st ++ [(n : Int)]))), (9, .c (ints (st ++ [(n : Int)]))), (20, vi .i64 n), (19, vi .i64 c), (0, .c (trs l)), (1, .c (ints st)), (2, vi .i64 c), (7, vi .i64 st.length)]) (fun k => k ≤ st.length + 1 ∧ blk l (st ++ [(n : Int)]) c k = false) (fun k => st.length + 1 - k) 0 ⟨Nat.zero_le _, rfl⟩ (by ((first | refine qen ?_ | refine qvs ?_ | refine qeq ?_ | refine qst ?_ | refine qv ?_ | refine qc ?_ | refine qe ?_ | refine qcs ?_ | skip); (repeat' first | exact rfl | (refine qS ?_; constructor)))) ?_
      intro k hk
      refine Fork.dec (fun hlk => ?_) (fun hlk => ?_)
      · have hlk : k < st.length + 1 := by omega
        have c121 : PFD Tryz.prog 88 _ _ := C88 (l := l) (st := st ++ [(n : Int)]) (i := k) (k := st.length) (c := c) ⟨hl, by omega, hso, by omega, by omega⟩
        have hbs := blk_succ l (st ++ [(n : Int)]) c k
        rw [show (st ++ [(n : Int)]).length - 1 = st.length by omega] at hbs
        (repeat' first | (refine Owe.same ?_; first | refine Owe.o ?_ | refine Owe.mk ?_ ?_) | (refine Fork.same ?_; (first | refine fkD ?_ ?_ | refine fkN ?_ ?_ | refine fkM ?_ ?_) <;> intro h) | ((first | refine OpsL.same ?_ | refine OpsDL.same ?_); first | refine pK c121 rfl rfl ?_) | refine MvQ.stay ?_)
        · have h : blB l (st ++ [(n : Int)]) k st.length c = true := h
          have hg : plG l c f st n = none := by
            rw [plG, if_pos]
            exact blk_le hlk (by rw [show (st ++ [(n : Int)]).length - 1 = st.length by omega]; exact h)
          rw [hg] at he
          exact again0 (n + 1) ⟨hlt, he⟩ (by omega) (by ((first | refine qen ?_ | refine qvs ?_ | refine qeq ?_ | refine qst ?_ | refine qv ?_ | refine qc ?_ | refine qe ?_ | refine qcs ?_ | skip); (repeat' first | exact rfl | (refine qS ?_; constructor))))
        · have h : blB l (st ++ [(n : Int)]) k st.length c = false := h
          exact again0 (k + 1) ⟨hlk, by rw [hbs, hk.2, h]; rfl⟩ (by omega) (by ((first | refine qen ?_ | refine qvs ?_ | refine qeq ?_ | refine qst ?_ | refine qv ?_ | refine qc ?_ | refine qe ?_ | refine qcs ?_ | skip); (repeat' first | exact rfl | (refine qS ?_; constructor))))
      · have : k = st.length + 1 := by omega
        subst this
        have c100 := ih (st ++ [(n : Int)]) (by omega) hso
        rcases hp : plS l c f (st ++ [(n : Int)]) with _ | o
        · rw [hp] at c100
          have hg : plG l c f st n = if st.length = 0 then some none else none := by
            rw [plG, if_neg (by rw [hk.2]; decide), hp]
          (repeat' first | (refine Owe.same ?_; first | refine Owe.o ?_ | refine Owe.mk ?_ ?_) | (refine Fork.same ?_; (first | refine fkD ?_ ?_ | refine fkN ?_ ?_ | refine fkM ?_ ?_) <;> intro h) | ((first | refine OpsL.same ?_ | refine OpsDL.same ?_); first | refine pK c100 rfl rfl ?_) | refine MvQ.stay ?_)
          · have h : st.length = 0 := by omega
            rw [hg, if_pos h] at he
            have he : q = none := he
            subst he
            rw [plV]
            (refine rqK rfl ?_; (repeat' first | exact rfl | (refine qS ?_; constructor)))
          · rw [hg, if_neg (by omega)] at he
            exact again0 (n + 1) ⟨hlt, he⟩ (by omega) (by ((first | refine qen ?_ | refine qvs ?_ | refine qeq ?_ | refine qst ?_ | refine qv ?_ | refine qc ?_ | refine qe ?_ | refine qcs ?_ | skip); (repeat' first | exact rfl | (refine qS ?_; constructor))))
        · rw [hp] at c100
          have hlo := plS_len _ _ _ hp
          have hg : plG l c f st n = some (some o) := by
            rw [plG, if_neg (by rw [hk.2]; decide), hp]
          rw [hg] at he
          have he : q = some o := he
          subst he
          rw [plV] at c100 ⊢
          (repeat' first | (refine Owe.same ?_; first | refine Owe.o ?_ | refine Owe.mk ?_ ?_) | (refine Fork.same ?_; (first | refine fkD ?_ ?_ | refine fkN ?_ ?_ | refine fkM ?_ ?_) <;> intro h) | ((first | refine OpsL.same ?_ | refine OpsDL.same ?_); first | refine pK c100 rfl rfl ?_) | refine MvQ.stay ?_)
          (refine rqK rfl ?_; (repeat' first | exact rfl | (refine qS ?_; constructor)))
    · (repeat' first | (refine Owe.same ?_; first | refine Owe.o ?_ | refine Owe.mk ?_ ?_) | (refine Fork.same ?_; (first | refine fkD ?_ ?_ | refine fkN ?_ ?_ | refine fkM ?_ ?_) <;> intro h) | refine MvQ.stay ?_)
      have : n = c := by omega
      subst this
      rw [Nat.sub_self, tryL] at he
      subst he
      rw [plV]
      (refine rqK rfl ?_; (repeat' first | exact rfl | (refine qS ?_; constructor)))
end Go.Pw

set_option linter.unusedSimpArgs false
set_option linter.unusedVariables false
namespace Go.Pw
set_option maxRecDepth 2000
open Go Go.Proofs A1 A2 A3 A4
abbrev Tn := Int × List Int
abbrev tv (t : Tn) : V := .agg [int t.1, ints t.2]
theorem cyE_ok {n : Int} : cyE n = 0 ↔ 1 ≤ n ∧ n ≤ 40 := by rw [cyE, unl0 (by decide)]
theorem fst2 {a b : Int} : fstE [a, b] = 0 ↔ a = 0 ∧ b = 0 := by rw [fst0, fst0]; simp only [fst_nil, and_true]
/-- The first turns of a cycle. -/
def ftR (l : List Dv) (c : Int) : Tn × Int := if fstE [(dvsE l).2, cyE c] = 0 then match plS l c.toNat l.length [] with
    | none => ((0, []), 12)
    | some o => ((c, o), 0)
  else ((0, []), fstE [(dvsE l).2, cyE c])
theorem C15 {l : List Dv} {c : Int} : l.length ≤ 1000000 → PFD Tryz.prog 15 [.c (trs l), vi .i64 c] (.tup [tv (ftR l c).1, vi .i64 (ftR l c).2]) := fun hl => by
  have c95 := C72 hl
  by_cases h0 : fstE [(dvsE l).2, cyE c] = 0
  · obtain ⟨h1, h2⟩ := fst2.1 h0
    have hO := dvsE_ok.1 h1
    have hc := cyE_ok.1 h2
    have e : ((c.toNat : Nat) : Int) = c := by omega
    have c100 := C74 (c := c.toNat) hO (by omega) l.length [] (by simp) (fun i hi => by cases hi)
    rw [e] at c100
    rcases hp : plS l c.toNat l.length [] with _ | o
    · rw [hp, plV] at c100
      have hr : ftR l c = ((0, []), 12) := by rw [ftR, if_pos h0, hp]
      rw [hr]
      refine pi2 fn15 ?_
      (repeat' first | (refine Owe.same ?_; first | refine Owe.o ?_ | refine Owe.mk ?_ ?_) | (refine Fork.same ?_; (first | refine fkD ?_ ?_ | refine fkN ?_ ?_ | refine fkM ?_ ?_) <;> intro h) | ((first | refine OpsL.same ?_ | refine OpsDL.same ?_); first | refine pK c95 rfl rfl ?_ | refine pK C73 rfl rfl ?_ | refine pK C71 rfl rfl ?_ | refine pK c100 rfl rfl ?_) | refine MvQ.stay ?_)
      · exact absurd h0 h
      · (refine rqK rfl ?_; (repeat' first | exact rfl | (refine qS ?_; constructor)))
    · have hlo := plS_len _ _ _ hp
      have hn := hO.n
      rw [hp, plV] at c100
      have hr : ftR l c = ((c, o), 0) := by rw [ftR, if_pos h0, hp]
      rw [hr]
      refine pi2 fn15 ?_
      (repeat' first | (refine Owe.same ?_; first | refine Owe.o ?_ | refine Owe.mk ?_ ?_) | (refine Fork.same ?_; (first | refine fkD ?_ ?_ | refine fkN ?_ ?_ | refine fkM ?_ ?_) <;> intro h) | ((first | refine OpsL.same ?_ | refine OpsDL.same ?_); first | refine pK c95 rfl rfl ?_ | refine pK C73 rfl rfl ?_ | refine pK C71 rfl rfl ?_ | refine pK c100 rfl rfl ?_) | refine MvQ.stay ?_)
      · exact absurd h0 h
      · (refine rqK rfl ?_; (repeat' first | exact rfl | (refine qS ?_; constructor)))
  · have hr : ftR l c = ((0, []), fstE [(dvsE l).2, cyE c]) := by rw [ftR, if_neg h0]
    rw [hr]
    refine pi2 fn15 ?_
    (repeat' first | (refine Owe.same ?_; first | refine Owe.o ?_ | refine Owe.mk ?_ ?_) | (refine Fork.same ?_; (first | refine fkD ?_ ?_ | refine fkN ?_ ?_ | refine fkM ?_ ?_) <;> intro h) | ((first | refine OpsL.same ?_ | refine OpsDL.same ?_); first | refine pK c95 rfl rfl ?_ | refine pK C73 rfl rfl ?_ | refine pK C71 rfl rfl ?_) | refine MvQ.stay ?_)
    · (refine rqK rfl ?_; (repeat' first | exact rfl | (refine qS ?_; constructor)))
    · exact absurd h h0
def findT (l : List Dv) : Nat → Int → Tn × Int
  | 0, _ => ((0, []), 12)
  | r + 1, c => if (ftR l c).2 = 0 then ((ftR l c).1, 0) else findT l r (c + 1)
/-- The shortest turns. -/
def shR (l : List Dv) : Tn × Int := if (dvsE l).2 = 0 then findT l (41 + (bdK l).p).toNat (-(bdK l).p) else ((0, []), (dvsE l).2)
theorem C17 {l : List Dv} : l.length ≤ 1000000 → PFD Tryz.prog 17 [.c (trs l)] (.tup [tv (shR l).1, vi .i64 (shR l).2]) := fun hl => by
  have c73 := C18 hl
  by_cases h0 : (dvsE l).2 = 0
  · have hO := dvsE_ok.1 h0
    have hp := bestK_lo (c := bdC l) (n := l.length) (lo := -100) (by decide) (fun b => bdC_bd hO b) (2 ^ l.length)
    have hr : shR l = findT l (41 + (bdK l).p).toNat (-(bdK l).p) := by rw [shR, if_pos h0]
    rw [if_pos h0, if_pos h0, h0] at c73
    generalize (bdK l).p = p at c73 hp hr
    rw [hr]
    generalize hq : findT l (41 + p).toNat (-p) = q
    refine pi2 fn17 ?_
    (repeat' first | (refine Owe.same ?_; first | refine Owe.o ?_ | refine Owe.mk ?_ ?_) | (refine Fork.same ?_; (first | refine fkD ?_ ?_ | refine fkN ?_ ?_ | refine fkM ?_ ?_) <;> intro h) | ((first | refine OpsL.same ?_ | refine OpsDL.same ?_); first | refine pK c73 rfl rfl ?_) | refine MvQ.stay ?_)
    · exact absurd rfl h
    obtain ⟨b, hb⟩ : ∃ b : Nat, -p = b := ⟨(-p).toNat, by omega⟩
    have hb2 : b ≤ 100 := by omega
    have hq2 : findT l (41 - b) b = q := by rw [← hq, hb]; congr 1; omega
    refine Sat.lp (fun k : Nat => ⟨[(7, vi .i64 k), (2, .c (.bp 0 0)), (0, .c (trs l))], [(0, .box [int 0, .d (.v (.slice none 0 0))])], 1⟩) (fun k => k ≤ 101 ∧ b ≤ k ∧ q = findT l (41 - k) k) (fun k => 101 - k) b [0] ⟨by omega, by omega, hq2.symm⟩ ?_ ?_
    · (refine qis ?_ ?_ <;> (repeat' first | exact rfl | (refine qS ?_; constructor)))
      exact hb
    · intro k hk
      refine Fork.dec (fun hlt => ?_) (fun hlt => ?_)
      · have hlt : k < 41 := by omega
        have he := hk.2.2
        rw [show 41 - k = (41 - (k + 1)) + 1 by omega, findT] at he
        have c74 := C15 (l := l) (c := k) hl
        (repeat' first | (refine Owe.same ?_; first | refine Owe.o ?_ | refine Owe.mk ?_ ?_) | (refine Fork.same ?_; (first | refine fkD ?_ ?_ | refine fkN ?_ ?_ | refine fkM ?_ ?_) <;> intro h) | ((first | refine OpsL.same ?_ | refine OpsDL.same ?_); first | refine pK c74 rfl rfl ?_) | refine MvQ.stay ?_)
        · have h : (ftR l k).2 = 0 := h
          rw [if_pos h] at he
          subst he
          (refine rqK rfl ?_; (repeat' first | exact rfl | (refine qS ?_; constructor)))
        · have h : ¬ (ftR l k).2 = 0 := h
          rw [if_neg h] at he
          refine again (k + 1) [0] ⟨by omega, by omega, he⟩ (by omega) ?_
          (refine qis ?_ ?_ <;> (repeat' first | exact rfl | (refine qS ?_; constructor)))
      · have he := hk.2.2
        rw [show 41 - k = 0 by omega, findT] at he
        subst he
        (repeat' first | (refine Owe.same ?_; first | refine Owe.o ?_ | refine Owe.mk ?_ ?_) | (refine Fork.same ?_; (first | refine fkD ?_ ?_ | refine fkN ?_ ?_ | refine fkM ?_ ?_) <;> intro h) | refine MvQ.stay ?_)
        (refine rqK rfl ?_; (repeat' first | exact rfl | (refine qS ?_; constructor)))
  · have hr : shR l = ((0, []), (dvsE l).2) := by rw [shR, if_neg h0]
    rw [hr]
    rw [if_neg h0, if_neg h0] at c73
    refine pi2 fn17 ?_
    (repeat' first | (refine Owe.same ?_; first | refine Owe.o ?_ | refine Owe.mk ?_ ?_) | (refine Fork.same ?_; (first | refine fkD ?_ ?_ | refine fkN ?_ ?_ | refine fkM ?_ ?_) <;> intro h) | ((first | refine OpsL.same ?_ | refine OpsDL.same ?_); first | refine pK c73 rfl rfl ?_) | refine MvQ.stay ?_)
    · (refine rqK rfl ?_; (repeat' first | exact rfl | (refine qS ?_; constructor)))
    · exact absurd h h0
end Go.Pw

set_option linter.unusedSimpArgs false
set_option linter.unusedVariables false
namespace Go.Pw
set_option maxRecDepth 2000
open Go Go.Proofs A1 A2 A3 A4
abbrev lyOk (x : Dv) : Prop := (1 ≤ x.1 ∧ x.1 ≤ 10000) ∧ (1 ≤ x.2.1 ∧ x.2.1 ≤ 100) ∧ 1 ≤ x.2.2 ∧ x.2.2 ≤ 100
/-- The error of a layer. -/
def lyE (x : Dv) : Int := fstE [unl (lyOk x) 2, unl (x.2.1 ≤ x.2.2) 9]
theorem lyE_of {x : Dv} {p : Bool} (_h : ¬ fstE [unb p 2, unb (decide (x.2.1 ≤ x.2.2)) 9] = 0) (hp : p = decide (lyOk x)) : lyE x = fstE [unb p 2, unb (decide (x.2.1 ≤ x.2.2)) 9] := by subst hp; rfl
theorem lyE_of0 {x : Dv} {p : Bool} (h : fstE [unb p 2, unb (decide (x.2.1 ≤ x.2.2)) 9] = 0) (hp : p = decide (lyOk x)) : lyE x = 0 := by subst hp; exact h
theorem C91 {n : Int} : PFD Tryz.prog 91 [vi .i64 n] (vbl (decide (1 ≤ n ∧ n ≤ 100))) := by
  refine pi1 fn91 ?_
  (repeat' first | (refine Owe.same ?_; first | refine Owe.o ?_ | refine Owe.mk ?_ ?_) | (refine Fork.same ?_; (first | refine fkD ?_ ?_ | refine fkN ?_ ?_ | refine fkM ?_ ?_) <;> intro h) | ((first | refine OpsL.same ?_ | refine OpsDL.same ?_); first | refine pK C84 rfl rfl ?_) | refine MvQ.stay ?_)
  (refine rqK rfl ?_; (repeat' first | exact rfl | (refine qS ?_; constructor)))
/-- The error of layers, with an index. -/
def lysE (l : List Dv) : Int × Int := if cntE l.length 6 = 0 then eachE lyE 0 l else (0, cntE l.length 6)
theorem C35 {l : List Dv} : l.length ≤ 1000000 → PFD Tryz.prog 35 [.c (trs l)] (.tup [vi .i64 (lysE l).1, vi .i64 (lysE l).2]) := fun hl => by
  refine pi2 fn35 ?_
  (repeat' first | (refine Owe.same ?_; first | refine Owe.o ?_ | refine Owe.mk ?_ ?_) | (refine Fork.same ?_; (first | refine fkD ?_ ?_ | refine fkN ?_ ?_ | refine fkM ?_ ?_) <;> intro h) | ((first | refine OpsL.same ?_ | refine OpsDL.same ?_); first | refine pK C81 rfl rfl ?_) | refine MvQ.stay ?_)
  · have h : ¬ cntE l.length 6 = 0 := h
    (refine rqK rfl ?_; (repeat' first | exact rfl | (refine qS ?_; constructor))) <;> rw [lysE, if_neg h]
  · have h : cntE l.length 6 = 0 := h
    have hr : lysE l = eachE lyE 0 l := by rw [lysE, if_pos h]
    rw [hr]
    refine Ops.cs rfl rfl (CallS.of fn92 rfl ?_)
    (repeat' first | (refine Owe.same ?_; first | refine Owe.o ?_ | refine Owe.mk ?_ ?_) | (refine Fork.same ?_; (first | refine fkD ?_ ?_ | refine fkN ?_ ?_ | refine fkM ?_ ?_) <;> intro h) | refine MvQ.stay ?_)
    refine Sat.lp (fun k : Nat => ⟨[(11, vi .i64 k), (10, vi .i64 l.length), (9, .c (trs l)), (1, .c (.fn 93 [0]))], [(0, .box [.fn 91 []])], 1⟩) (fun k => k ≤ l.length ∧ eachE lyE 0 l = eachE lyE k (l.drop k)) (fun k => l.length - k) 0 [] ⟨Nat.zero_le _, rfl⟩ ?_ ?_
    · (refine qis ?_ ?_ <;> (repeat' first | exact rfl | (refine qS ?_; constructor)))
    · intro k hk
      refine Fork.dec (fun hlt => ?_) (fun hlt => ?_)
      · have hlt : k < l.length := by omega
        (repeat' first | (refine Owe.same ?_; first | refine Owe.o ?_ | refine Owe.mk ?_ ?_) | (refine Fork.same ?_; (first | refine fkD ?_ ?_ | refine fkN ?_ ?_ | refine fkM ?_ ?_) <;> intro h) | refine MvQ.stay ?_)
        refine Ops.cs rfl rfl (CallS.of fn93 rfl ?_)
        (repeat' first | (refine Owe.same ?_; first | refine Owe.o ?_ | refine Owe.mk ?_ ?_) | (refine Fork.same ?_; (first | refine fkD ?_ ?_ | refine fkN ?_ ?_ | refine fkM ?_ ?_) <;> intro h) | ((first | refine OpsL.same ?_ | refine OpsDL.same ?_); first | refine pK C84 rfl rfl ?_ | refine pK C91 rfl rfl ?_ | refine pK C85 rfl rfl ?_ | refine pK C71 rfl rfl ?_) | refine MvQ.stay ?_)
        all_goals have e := eachE_drop lyE (0, 0, 0) l k hlt
        all_goals first
          | have e1 := lyE_of0 (x := l.getD (k : Int).toNat (0, 0, 0)) h (by rw [Bool.eq_iff_iff]; (try simp only [decide_eq_true_eq, Bool.false_eq_true, false_iff]); omega)
            have e1 : lyE (l.getD k (0, 0, 0)) = 0 := e1
            rw [if_pos e1, ← hk.2] at e
            refine again (k + 1) [] ⟨by omega, e⟩ (by omega) ?_
            (refine qis ?_ ?_ <;> (repeat' first | exact rfl | (refine qS ?_; constructor)))
          | have e1 := lyE_of (x := l.getD (k : Int).toNat (0, 0, 0)) h (by rw [Bool.eq_iff_iff]; (try simp only [decide_eq_true_eq, Bool.false_eq_true, false_iff]); omega)
            rw [← e1] at h
            have h : ¬ lyE (l.getD k (0, 0, 0)) = 0 := h
            rw [if_neg h, ← hk.2] at e
            (refine rqK rfl ?_; (repeat' first | exact rfl | (refine qS ?_; constructor)))
            · rw [e]
            · rw [e]; exact e1.symm
      · (repeat' first | (refine Owe.same ?_; first | refine Owe.o ?_ | refine Owe.mk ?_ ?_) | (refine Fork.same ?_; (first | refine fkD ?_ ?_ | refine fkN ?_ ?_ | refine fkM ?_ ?_) <;> intro h) | refine MvQ.stay ?_)
        have e : eachE lyE 0 l = (0, 0) := by rw [hk.2, List.drop_of_length_le (by omega)]; rfl
        (refine rqK rfl ?_; (repeat' first | exact rfl | (refine qS ?_; constructor))) <;> rw [e]
theorem C96 {x : Dv} : PFD Tryz.prog 96 [tr x] (vi .i64 x.2.1) := by
  refine pi1 fn96 ?_
  (repeat' first | (refine Owe.same ?_; first | refine Owe.o ?_ | refine Owe.mk ?_ ?_) | (refine Fork.same ?_; (first | refine fkD ?_ ?_ | refine fkN ?_ ?_ | refine fkM ?_ ?_) <;> intro h) | refine MvQ.stay ?_)
  (refine rqK rfl ?_; (repeat' first | exact rfl | (refine qS ?_; constructor)))
theorem C98 {x : Dv} : PFD Tryz.prog 98 [tr x] (vi .i64 x.2.2) := by
  refine pi1 fn98 ?_
  (repeat' first | (refine Owe.same ?_; first | refine Owe.o ?_ | refine Owe.mk ?_ ?_) | (refine Fork.same ?_; (first | refine fkD ?_ ?_ | refine fkN ?_ ?_ | refine fkM ?_ ?_) <;> intro h) | refine MvQ.stay ?_)
  (refine rqK rfl ?_; (repeat' first | exact rfl | (refine qS ?_; constructor)))
/-- The error of layers, and of a number with a limit. -/
def lsE (l : List Dv) (n m : Int) : Int := fstE [(lysE l).2, unl (0 ≤ n ∧ n ≤ m) 2]
theorem C94 {l : List Dv} {n m : Int} : l.length ≤ 1000000 → PFD Tryz.prog 94 [.c (trs l), vi .i64 n, vi .i64 m] (vi .i64 (lsE l n m)) := fun hl => by
  refine pi1 fn94 ?_
  (repeat' first | (refine Owe.same ?_; first | refine Owe.o ?_ | refine Owe.mk ?_ ?_) | (refine Fork.same ?_; (first | refine fkD ?_ ?_ | refine fkN ?_ ?_ | refine fkM ?_ ?_) <;> intro h) | ((first | refine OpsL.same ?_ | refine OpsDL.same ?_); first | refine pK (C35 hl) rfl rfl ?_ | refine pK C84 rfl rfl ?_ | refine pK C85 rfl rfl ?_ | refine pK C71 rfl rfl ?_) | refine MvQ.stay ?_)
  (refine rqK rfl ?_; (repeat' first | exact rfl | (refine qS ?_; constructor)))
theorem C162 {a b : Nat} : (a ≤ 4000000000000000000 ∧ b ≤ 4000000000000000000) → PFD Tryz.prog 162 [vi .i64 a, vi .i64 b] (vi .i64 (Nat.gcd a b)) := fun ⟨ha, hb⟩ => by
  refine pi1 fn162 ?_
  (repeat' first | (refine Owe.same ?_; first | refine Owe.o ?_ | refine Owe.mk ?_ ?_) | (refine Fork.same ?_; (first | refine fkD ?_ ?_ | refine fkN ?_ ?_ | refine fkM ?_ ?_) <;> intro h) | refine MvQ.stay ?_)
  refine Sat.lp0 (fun p : Nat × Nat => [(0, vi .i64 p.1), (1, vi .i64 p.2)]) (fun p => (p.1 ≤ 4000000000000000000 ∧ p.2 ≤ 4000000000000000000) ∧ Nat.gcd p.1 p.2 = Nat.gcd a b) (fun p => p.2) (a, b) ⟨⟨ha, hb⟩, rfl⟩ (by ((first | refine qen ?_ | refine qvs ?_ | refine qeq ?_ | refine qst ?_ | refine qv ?_ | refine qc ?_ | refine qe ?_ | refine qcs ?_ | skip); (repeat' first | exact rfl | (refine qS ?_; constructor)))) ?_
  intro p hp
  obtain ⟨p1, p2⟩ := p
  simp only at hp ⊢
  (repeat' first | (refine Owe.same ?_; first | refine Owe.o ?_ | refine Owe.mk ?_ ?_) | (refine Fork.same ?_; (first | refine fkD ?_ ?_ | refine fkN ?_ ?_ | refine fkM ?_ ?_) <;> intro h) | refine MvQ.stay ?_)
  · have hm : p1 % p2 < p2 := Nat.mod_lt _ (by omega)
    refine again0 (p2, p1 % p2) ⟨⟨hp.1.2, by omega⟩, ?_⟩ hm (by ((first | refine qen ?_ | refine qvs ?_ | refine qeq ?_ | refine qst ?_ | refine qv ?_ | refine qc ?_ | refine qe ?_ | refine qcs ?_ | skip); (repeat' first | exact rfl | (refine qS ?_; constructor))))
    rw [← hp.2, Nat.gcd_comm p1 p2, Nat.gcd_rec p2 p1, Nat.gcd_comm]
  · have h0 : p2 = 0 := by omega
    subst h0
    rw [← hp.2, Nat.gcd_zero_right]
    (refine rqK rfl ?_; (repeat' first | exact rfl | (refine qS ?_; constructor)))
abbrev Qt := Nat × Nat
abbrev qtv (q : Qt) : V := .agg [int (q.1 : Int), int (q.2 : Int)]
def plusQ (q o : Qt) : Qt :=
  ((q.1 * (o.2 / Nat.gcd q.2 o.2) + o.1 * (q.2 / Nat.gcd q.2 o.2)) / Nat.gcd (q.1 * (o.2 / Nat.gcd q.2 o.2) + o.1 * (q.2 / Nat.gcd q.2 o.2)) (q.2 / Nat.gcd q.2 o.2 * o.2),
   (q.2 / Nat.gcd q.2 o.2 * o.2) / Nat.gcd (q.1 * (o.2 / Nat.gcd q.2 o.2) + o.1 * (q.2 / Nat.gcd q.2 o.2)) (q.2 / Nat.gcd q.2 o.2 * o.2))
theorem C97 {q : Qt} : (0 < q.2 ∧ q.1 ≤ 4000000000000000000) → PFD Tryz.prog 97 [qtv q] (vi .i64 (q.1 / q.2 : Nat)) := fun hq => by
  refine pi1 fn97 ?_
  have e : (q.1 : Int).tdiv q.2 = ((q.1 / q.2 : Nat) : Int) := rfl
  have b : q.1 / q.2 ≤ q.1 := Nat.div_le_self _ _
  generalize q.1 / q.2 = d at *
  have ho : (q.2 : Int) ≠ 0 ∧ R64 ((q.1 : Int).tdiv q.2) := by rw [e]; exact ⟨by omega, ob⟩
  refine Owe.mk ho ?_
  (refine rqK rfl ?_; (repeat' first | exact rfl | (refine qS ?_; constructor)))
  exact e
theorem C99 {q : Qt} : (0 < q.2 ∧ q.1 ≤ 4000000000000000000 ∧ q.2 ≤ 4000000000000000000) → PFD Tryz.prog 99 [qtv q] (vi .i64 ((q.1 + q.2 - 1) / q.2 : Nat)) := fun hq => by
  refine pi1 fn99 ?_
  have e0 : ((q.1 : Int) + q.2 - 1) = ((q.1 + q.2 - 1 : Nat) : Int) := by omega
  have e : ((q.1 : Int) + q.2 - 1).tdiv q.2 = (((q.1 + q.2 - 1) / q.2 : Nat) : Int) := by rw [e0]; rfl
  have b : (q.1 + q.2 - 1) / q.2 ≤ q.1 + q.2 - 1 := Nat.div_le_self _ _
  generalize (q.1 + q.2 - 1) / q.2 = d at *
  have ho : (q.2 : Int) ≠ 0 ∧ R64 (((q.1 : Int) + q.2 - 1).tdiv q.2) := by rw [e]; exact ⟨by omega, ob⟩
  (repeat' first | (refine Owe.same ?_; first | refine Owe.o ?_ | refine Owe.mk ?_ ?_) | (refine Fork.same ?_; (first | refine fkD ?_ ?_ | refine fkN ?_ ?_ | refine fkM ?_ ?_) <;> intro h) | refine MvQ.stay ?_)
  (refine rqK rfl ?_; (repeat' first | exact rfl | (refine qS ?_; constructor)))
  exact e
theorem C140 {q o : Qt} : ((0 < q.2 ∧ 0 < o.2) ∧ (q.1 * o.2 + o.1 * q.2 ≤ 4000000000000000000 ∧ q.2 * o.2 ≤ 4000000000000000000) ∧ (q.1 ≤ 4000000000000000000 ∧ o.1 ≤ 4000000000000000000) ∧ q.2 ≤ 4000000000000000000 ∧ o.2 ≤ 4000000000000000000) → PFD Tryz.prog 140 [qtv q, qtv o] (qtv (plusQ q o)) := fun ⟨hp, hb, hd⟩ => by
  refine pi1 fn140 ?_
  have g0 : 0 < Nat.gcd q.2 o.2 := Nat.gcd_pos_of_pos_left _ hp.1
  have d1 : o.2 / Nat.gcd q.2 o.2 ≤ o.2 := Nat.div_le_self _ _
  have d2 : q.2 / Nat.gcd q.2 o.2 ≤ q.2 := Nat.div_le_self _ _
  have d3 : 0 < q.2 / Nat.gcd q.2 o.2 := Nat.div_pos (Nat.le_of_dvd hp.1 (Nat.gcd_dvd_left _ _)) g0
  have m1 : q.1 * (o.2 / Nat.gcd q.2 o.2) ≤ q.1 * o.2 := Nat.mul_le_mul_left _ d1
  have m2 : o.1 * (q.2 / Nat.gcd q.2 o.2) ≤ o.1 * q.2 := Nat.mul_le_mul_left _ d2
  have m3 : q.2 / Nat.gcd q.2 o.2 * o.2 ≤ q.2 * o.2 := Nat.mul_le_mul_right _ d2
  have m4 : 0 < q.2 / Nat.gcd q.2 o.2 * o.2 := Nat.mul_pos d3 hp.2
  have e1 : (o.2 : Int).tdiv (Nat.gcd q.2 o.2 : Nat) = ((o.2 / Nat.gcd q.2 o.2 : Nat) : Int) := rfl
  have e2 : (q.2 : Int).tdiv (Nat.gcd q.2 o.2 : Nat) = ((q.2 / Nat.gcd q.2 o.2 : Nat) : Int) := rfl
  rw [plusQ]
  have c1 := C162 (a := q.2) (b := o.2) ⟨by omega, by omega⟩
  generalize Nat.gcd q.2 o.2 = g at *
  generalize o.2 / g = x at *
  generalize q.2 / g = y at *
  have M1 : 0 ≤ (q.1 : Int) * (o.2 : Int).tdiv g ∧ (q.1 : Int) * (o.2 : Int).tdiv g = ((q.1 * x : Nat) : Int) := by rw [e1]; exact ⟨Int.mul_nonneg (by omega) (by omega), by rw [Int.natCast_mul]⟩
  have M2 : 0 ≤ (o.1 : Int) * (q.2 : Int).tdiv g ∧ (o.1 : Int) * (q.2 : Int).tdiv g = ((o.1 * y : Nat) : Int) := by rw [e2]; exact ⟨Int.mul_nonneg (by omega) (by omega), by rw [Int.natCast_mul]⟩
  have M3 : 0 ≤ (q.2 : Int).tdiv g * (o.2 : Int) ∧ (q.2 : Int).tdiv g * (o.2 : Int) = ((y * o.2 : Nat) : Int) := by rw [e2]; exact ⟨Int.mul_nonneg (by omega) (by omega), by rw [Int.natCast_mul]⟩
  have c2 := C162 (a := q.1 * x + o.1 * y) (b := y * o.2) ⟨by omega, by omega⟩
  have G0 : 0 < Nat.gcd (q.1 * x + o.1 * y) (y * o.2) := Nat.gcd_pos_of_pos_right _ m4
  have eA : (q.1 : Int) * (o.2 : Int).tdiv g + (o.1 : Int) * (q.2 : Int).tdiv g = ((q.1 * x + o.1 * y : Nat) : Int) := by rw [M1.2, M2.2]; omega
  rw [← eA, ← M3.2] at c2
  have D1 : (q.1 * x + o.1 * y) / Nat.gcd (q.1 * x + o.1 * y) (y * o.2) ≤ q.1 * x + o.1 * y := Nat.div_le_self _ _
  have D2 : y * o.2 / Nat.gcd (q.1 * x + o.1 * y) (y * o.2) ≤ y * o.2 := Nat.div_le_self _ _
  have E1 : ((q.1 : Int) * (o.2 : Int).tdiv g + (o.1 : Int) * (q.2 : Int).tdiv g).tdiv (Nat.gcd (q.1 * x + o.1 * y) (y * o.2) : Nat) = (((q.1 * x + o.1 * y) / Nat.gcd (q.1 * x + o.1 * y) (y * o.2) : Nat) : Int) := by rw [eA]; rfl
  have E2 : ((q.2 : Int).tdiv g * (o.2 : Int)).tdiv (Nat.gcd (q.1 * x + o.1 * y) (y * o.2) : Nat) = ((y * o.2 / Nat.gcd (q.1 * x + o.1 * y) (y * o.2) : Nat) : Int) := by rw [M3.2]; rfl
  generalize Nat.gcd (q.1 * x + o.1 * y) (y * o.2) = G at *
  generalize (q.1 * x + o.1 * y) / G = a at *
  generalize y * o.2 / G = b at *
  (repeat' first | (refine Owe.same ?_; first | refine Owe.o ?_ | refine Owe.mk ?_ ?_) | (refine Fork.same ?_; (first | refine fkD ?_ ?_ | refine fkN ?_ ?_ | refine fkM ?_ ?_) <;> intro h) | refine MvQ.stay ?_)
  ((first | refine OpsL.same ?_ | refine OpsDL.same ?_); refine pK c1 rfl rfl ?_)
  (repeat' first | (refine Owe.same ?_; first | refine Owe.o ?_ | refine Owe.mk ?_ ?_) | (refine Fork.same ?_; (first | refine fkD ?_ ?_ | refine fkN ?_ ?_ | refine fkM ?_ ?_) <;> intro h) | refine MvQ.stay ?_)
  ((first | refine OpsL.same ?_ | refine OpsDL.same ?_); refine pK c2 rfl rfl ?_)
  (repeat' first | (refine Owe.same ?_; first | refine Owe.o ?_ | refine Owe.mk ?_ ?_) | (refine Fork.same ?_; (first | refine fkD ?_ ?_ | refine fkN ?_ ?_ | refine fkM ?_ ?_) <;> intro h) | refine MvQ.stay ?_)
  (refine rqK rfl ?_; (repeat' first | exact rfl | (refine qS ?_; constructor)))
  · exact E1
  · exact E2
end Go.Pw

set_option linter.unusedSimpArgs false
set_option linter.unusedVariables false
namespace Go.Pw
set_option maxRecDepth 2000
open Go Go.Proofs A1 A2 A3 A4
def lyQ (t v : Int) : Qt := (t.toNat, v.toNat)
/-- The depth after a time, with chosen speeds. -/
def deepS (sp : Dv → Int) (T : Nat) : List Dv → Qt → Nat → Qt
  | [], p, _ => p
  | x :: r, p, top => if r = [] ∨ T * (plusQ p (lyQ x.1 (sp x))).2 < (plusQ p (lyQ x.1 (sp x))).1 then (top * p.2 + (T * p.2 - p.1) * (sp x).toNat, p.2)
    else deepS sp T r (plusQ p (lyQ x.1 (sp x))) (top + x.1.toNat)
structure LyOk (l : List Dv) : Prop where
  n : 0 < l.length ∧ l.length ≤ 6
  ok : ∀ i, i < l.length → lyOk (l.getD i (0, 0, 0)) ∧ (l.getD i (0, 0, 0)).2.1 ≤ (l.getD i (0, 0, 0)).2.2
theorem deepS_drop {sp : Dv → Int} {T : Nat} {l : List Dv} {k : Nat} {p : Qt} {top : Nat} (hk : k < l.length) : deepS sp T (l.drop k) p top =
    (fun x : Dv => if k = l.length - 1 ∨ T * (plusQ p (lyQ x.1 (sp x))).2 < (plusQ p (lyQ x.1 (sp x))).1 then (top * p.2 + (T * p.2 - p.1) * (sp x).toNat, p.2)
    else deepS sp T (l.drop (k + 1)) (plusQ p (lyQ x.1 (sp x))) (top + x.1.toNat)) (l.getD k (0, 0, 0)) := by
  have e : l.drop k = l.getD k (0, 0, 0) :: l.drop (k + 1) := by
    rw [List.getD_eq_getElem?_getD, List.getElem?_eq_getElem hk]; exact List.drop_eq_getElem_cons hk
  rw [e]
  have e2 : (l.drop (k + 1) = []) = (k = l.length - 1) := by
    apply propext; rw [List.drop_eq_nil_iff]; omega
  simp only [deepS, e2]
theorem plusQ_pos {q o : Qt} (hq : 0 < q.2) (ho : 0 < o.2) : 0 < (plusQ q o).2 := by
  have g0 : 0 < Nat.gcd q.2 o.2 := Nat.gcd_pos_of_pos_left _ hq
  have h : 0 < q.2 / Nat.gcd q.2 o.2 * o.2 := Nat.mul_pos (Nat.div_pos (Nat.le_of_dvd hq (Nat.gcd_dvd_left _ _)) g0) ho
  exact Nat.div_pos (Nat.le_of_dvd h (Nat.gcd_dvd_right _ _)) (Nat.gcd_pos_of_pos_right _ h)
theorem plusQ_den {q o : Qt} : (plusQ q o).2 ≤ q.2 * o.2 := Nat.le_trans (Nat.div_le_self _ _) (Nat.mul_le_mul_right _ (Nat.div_le_self _ _))
theorem plusQ_num {q o : Qt} : (plusQ q o).1 ≤ q.1 * o.2 + o.1 * q.2 :=
  Nat.le_trans (Nat.div_le_self _ _) (Nat.add_le_add (Nat.mul_le_mul_left _ (Nat.div_le_self _ _)) (Nat.mul_le_mul_left _ (Nat.div_le_self _ _)))
theorem C95 {g : FuncId} {sp : Dv → Int} (hg : ∀ x : Dv, PFD Tryz.prog g [tr x] (vi .i64 (sp x))) {l : List Dv} {T : Nat} :
    (LyOk l ∧ (∀ i, i < l.length → 1 ≤ sp (l.getD i (0, 0, 0)) ∧ sp (l.getD i (0, 0, 0)) ≤ 100) ∧ T ≤ 100000) → PFD Tryz.prog 95 [.c (trs l), vi .i64 T, .c (.fn g [])] (qtv (deepS sp T l (0, 1) 0)) := fun ⟨hO, hs, hT⟩ => by
  have hn := hO.n
  obtain ⟨q, hq⟩ : ∃ q, q = deepS sp T l (0, 1) 0 := ⟨_, rfl⟩
  rw [← hq]
  refine pi1 fn95 ?_
  (repeat' first | (refine Owe.same ?_; first | refine Owe.o ?_ | refine Owe.mk ?_ ?_) | (refine Fork.same ?_; (first | refine fkD ?_ ?_ | refine fkN ?_ ?_ | refine fkM ?_ ?_) <;> intro h) | refine MvQ.stay ?_)
  refine Sat.lp (fun s : Nat × Qt × Nat => ⟨[(16, vi .i64 s.1), (15, vi .i64 l.length), (14, .c (trs l)), (0, .c (trs l)), (1, vi .i64 T), (2, .c (.fn g [])), (8, vi .i64 s.2.2), (6, .c (.bp 0 0)), (7, .c (.bp 1 0))], [(1, .box [int s.2.1.1, int s.2.1.2]), (0, .box [int 0, int 0])], 2⟩)
    (fun s => s.1 ≤ l.length ∧ q = deepS sp T (l.drop s.1) s.2.1 s.2.2 ∧ (0 < s.2.1.2 ∧ s.2.1.2 ≤ 100 ^ s.1) ∧ s.2.1.1 ≤ T * s.2.1.2 ∧ s.2.2 ≤ 10000 * s.1) (fun s => l.length - s.1) (0, (0, 1), 0) [0, 1] ⟨Nat.zero_le _, hq, ⟨by decide, by decide⟩, by simp, by simp⟩ ?_ ?_
  · (refine qis ?_ ?_ <;> (repeat' first | exact rfl | (refine qS ?_; constructor)))
  · intro ⟨k, p, top⟩ hk
    simp only at hk ⊢
    refine Fork.dec (fun hlt => ?_) (fun hlt => ?_)
    · have hlt : k < l.length := by omega
      have hx := (hO.ok k hlt).1
      have hv := hs k hlt
      have e := deepS_drop (sp := sp) (T := T) (p := p) (top := top) hlt
      obtain ⟨p1, p2⟩ := p
      simp only at hk e
      have b0 : p2 ≤ 10000000000 := Nat.le_trans hk.2.2.1.2 (Nat.le_trans (Nat.pow_le_pow_right (by decide) (show k ≤ 5 by omega)) (by decide))
      have b1 : T * p2 ≤ 100000 * 10000000000 := Nat.mul_le_mul hT b0
      have c86 : PFD Tryz.prog 140 [.agg [int (p1 : Int), int (p2 : Int)], .agg [int (l.getD k (0, 0, 0)).1, int (sp (l.getD k (0, 0, 0)))]] (qtv (plusQ (p1, p2) (lyQ (l.getD k (0, 0, 0)).1 (sp (l.getD k (0, 0, 0)))))) := by
        have h1 := hx.1
        generalize (l.getD k (0, 0, 0)).1 = a at *
        generalize sp (l.getD k (0, 0, 0)) = v at *
        obtain ⟨a, rfl⟩ : ∃ n : Nat, a = n := ⟨a.toNat, by omega⟩
        obtain ⟨v, rfl⟩ : ∃ n : Nat, v = n := ⟨v.toNat, by omega⟩
        have m1 : p1 * v ≤ 1000000000000000 * 100 := Nat.mul_le_mul (by omega) (by omega)
        have m2 : a * p2 ≤ 10000 * 10000000000 := Nat.mul_le_mul (by omega) b0
        have m3 : p2 * v ≤ 10000000000 * 100 := Nat.mul_le_mul b0 (by omega)
        exact C140 (q := (p1, p2)) (o := (a, v)) ⟨⟨hk.2.2.1.1, by simp only; omega⟩, ⟨by simp only; omega, by simp only; omega⟩, ⟨by simp only; omega, by simp only; omega⟩, by simp only; omega, by simp only; omega⟩
      have r1 := plusQ_pos (q := (p1, p2)) (o := lyQ (l.getD k (0, 0, 0)).1 (sp (l.getD k (0, 0, 0)))) hk.2.2.1.1 (by simp only [lyQ]; omega)
      have r2 := plusQ_den (q := (p1, p2)) (o := lyQ (l.getD k (0, 0, 0)).1 (sp (l.getD k (0, 0, 0))))
      have r3 : p2 * (lyQ (l.getD k (0, 0, 0)).1 (sp (l.getD k (0, 0, 0)))).2 ≤ p2 * 100 := Nat.mul_le_mul_left _ (by simp only [lyQ]; omega)
      have r4 : p2 * 100 ≤ 100 ^ (k + 1) := by rw [Nat.pow_succ]; exact Nat.mul_le_mul_right _ hk.2.2.1.2
      obtain ⟨⟨t1, t2⟩, ht⟩ : ∃ t, plusQ (p1, p2) (lyQ (l.getD k (0, 0, 0)).1 (sp (l.getD k (0, 0, 0)))) = t := ⟨_, rfl⟩
      rw [ht] at c86 r1 r2 e
      simp only at r1 r2 r3 e
      have b2 : T * t2 ≤ 100000 * 1000000000000 := Nat.mul_le_mul hT (by omega)
      have b3 : top * p2 ≤ 60000 * 10000000000 := Nat.mul_le_mul (by omega) b0
      have b4 : 0 ≤ ((T : Int) * p2 - p1) * sp (l.getD k (0, 0, 0)) ∧ ((T : Int) * p2 - p1) * sp (l.getD k (0, 0, 0)) ≤ 1000000000000000 * 100 := by
        have hd : 0 ≤ (T : Int) * p2 - p1 ∧ (T : Int) * p2 - p1 ≤ 1000000000000000 := by omega
        exact ⟨Int.mul_nonneg hd.1 (by omega), Int.mul_le_mul hd.2 hv.2 (by omega) (by omega)⟩
      have b5 : ((T : Int) * p2 - p1) * sp (l.getD k (0, 0, 0)) = (((T * p2 - p1) * (sp (l.getD k (0, 0, 0))).toNat : Nat) : Int) := by
        rw [Int.natCast_mul, Int.toNat_of_nonneg (by omega)]; congr 1; omega
      have b6 : (top : Int) * p2 + ((T : Int) * p2 - p1) * sp (l.getD k (0, 0, 0)) = ((top * p2 + (T * p2 - p1) * (sp (l.getD k (0, 0, 0))).toNat : Nat) : Int) := by rw [b5]; omega
      have h1 := hx.1
      (repeat' first | (refine Owe.same ?_; first | refine Owe.o ?_ | refine Owe.mk ?_ ?_) | (refine Fork.same ?_; (first | refine fkD ?_ ?_ | refine fkN ?_ ?_ | refine fkM ?_ ?_) <;> intro h) | ((first | refine OpsL.same ?_ | refine OpsDL.same ?_); first | refine pK (hg _) rfl rfl ?_ | refine pK c86 rfl rfl ?_) | refine MvQ.stay ?_)
      · rw [if_pos (.inl (by omega)), ← hk.2.1] at e
        subst e
        (refine rqK rfl ?_; (repeat' first | exact rfl | (refine qS ?_; constructor)))
        exact b6
      · have h : (T : Int) * t2 < t1 := h
        have h : T * t2 < t1 := by exact_mod_cast h
        rw [if_pos (.inr h), ← hk.2.1] at e
        subst e
        (refine rqK rfl ?_; (repeat' first | exact rfl | (refine qS ?_; constructor)))
        exact b6
      · rename_i hkl
        have h : ¬ (T : Int) * t2 < t1 := h
        have h : ¬ T * t2 < t1 := fun hh => h (by exact_mod_cast hh)
        rw [if_neg (by rintro (h2 | h2) <;> omega), ← hk.2.1] at e
        refine again (k + 1, (t1, t2), top + (l.getD k (0, 0, 0)).1.toNat) [0, 1] ⟨by omega, e, ⟨by simp only; omega, by simp only; omega⟩, by simp only; omega, by simp only; omega⟩ (by omega) ?_
        (refine qis ?_ ?_ <;> (repeat' first | exact rfl | (refine qS ?_; constructor)))
        show (top : Int) + (l.getD k (0, 0, 0)).1 = ((top + (l.getD k (0, 0, 0)).1.toNat : Nat) : Int)
        omega
    · (repeat' first | (refine Owe.same ?_; first | refine Owe.o ?_ | refine Owe.mk ?_ ?_) | (refine Fork.same ?_; (first | refine fkD ?_ ?_ | refine fkN ?_ ?_ | refine fkM ?_ ?_) <;> intro h) | refine MvQ.stay ?_)
      have e : q = p := by rw [hk.2.1, List.drop_of_length_le (by omega)]; rfl
      subst e
      (refine rqK rfl ?_; (repeat' first | exact rfl | (refine qS ?_; constructor)))
/-- The time to a depth, with chosen speeds. -/
def latePart (last : Prop) [Decidable last] (t d : Int) : Int := min (if last then d else t) d
def lateS (sp : Dv → Int) : List Dv → Int → Qt → Qt
  | [], _, q => q
  | x :: r, d, q => lateS sp r (d - latePart (r = []) x.1 d) (plusQ q (lyQ (latePart (r = []) x.1 d) (sp x)))
theorem lateS_drop {sp : Dv → Int} {l : List Dv} {k : Nat} {d : Int} {q : Qt} (hk : k < l.length) : lateS sp (l.drop k) d q =
    (fun x : Dv => lateS sp (l.drop (k + 1)) (d - latePart (k = l.length - 1) x.1 d) (plusQ q (lyQ (latePart (k = l.length - 1) x.1 d) (sp x)))) (l.getD k (0, 0, 0)) := by
  have e : l.drop k = l.getD k (0, 0, 0) :: l.drop (k + 1) := by
    rw [List.getD_eq_getElem?_getD, List.getElem?_eq_getElem hk]; exact List.drop_eq_getElem_cons hk
  rw [e]
  have e2 : (l.drop (k + 1) = []) = (k = l.length - 1) := by
    apply propext; rw [List.drop_eq_nil_iff]; omega
  simp only [lateS, latePart, e2]
theorem C100 {g : FuncId} {sp : Dv → Int} (hg : ∀ x : Dv, PFD Tryz.prog g [tr x] (vi .i64 (sp x))) {l : List Dv} {D : Int} :
    (LyOk l ∧ (∀ i, i < l.length → 1 ≤ sp (l.getD i (0, 0, 0)) ∧ sp (l.getD i (0, 0, 0)) ≤ 100) ∧ 0 ≤ D ∧ D ≤ 100000) → PFD Tryz.prog 100 [.c (trs l), vi .i64 D, .c (.fn g [])] (qtv (lateS sp l D (0, 1))) := fun ⟨hO, hs, hD⟩ => by
  have hn := hO.n
  obtain ⟨q, hq⟩ : ∃ q, q = lateS sp l D (0, 1) := ⟨_, rfl⟩
  rw [← hq]
  refine pi1 fn100 ?_
  (repeat' first | (refine Owe.same ?_; first | refine Owe.o ?_ | refine Owe.mk ?_ ?_) | (refine Fork.same ?_; (first | refine fkD ?_ ?_ | refine fkN ?_ ?_ | refine fkM ?_ ?_) <;> intro h) | refine MvQ.stay ?_)
  refine Sat.lp (fun s : Nat × Qt × Int => ⟨[(14, vi .i64 s.1), (13, vi .i64 l.length), (12, .c (trs l)), (0, .c (trs l)), (1, vi .i64 s.2.2), (2, .c (.fn g [])), (6, .c (.bp 0 0)), (7, .c (.bp 1 0))], [(1, .box [int s.2.1.1, int s.2.1.2]), (0, .box [int 0, int 0])], 2⟩)
    (fun s => s.1 ≤ l.length ∧ q = lateS sp (l.drop s.1) s.2.2 s.2.1 ∧ (0 < s.2.1.2 ∧ s.2.1.2 ≤ 100 ^ s.1) ∧ s.2.1.1 ≤ 100000 * 101 ^ s.1 ∧ 0 ≤ s.2.2 ∧ s.2.2 ≤ 100000) (fun s => l.length - s.1) (0, (0, 1), D) [0, 1] ⟨Nat.zero_le _, hq, ⟨by simp, by simp⟩, by simp, hD⟩ ?_ ?_
  · (refine qis ?_ ?_ <;> (repeat' first | exact rfl | (refine qS ?_; constructor)))
  · intro ⟨k, p, d⟩ hk
    simp only at hk ⊢
    refine Fork.dec (fun hlt => ?_) (fun hlt => ?_)
    · have hlt : k < l.length := by omega
      have hx := (hO.ok k hlt).1
      have hv := hs k hlt
      have e := lateS_drop (sp := sp) (d := d) (q := p) hlt
      obtain ⟨p1, p2⟩ := p
      simp only at hk e
      have b0 : p2 ≤ 10000000000 := Nat.le_trans hk.2.2.1.2 (Nat.le_trans (Nat.pow_le_pow_right (by decide) (show k ≤ 5 by omega)) (by decide))
      have b1 : p1 ≤ 100000 * 10510100501 := Nat.le_trans hk.2.2.2.1 (Nat.mul_le_mul_left _ (Nat.le_trans (Nat.pow_le_pow_right (by decide) (show k ≤ 5 by omega)) (by decide)))
      have b2 : 100 ^ k ≤ 101 ^ k := Nat.pow_le_pow_left (by decide) k
      have h1 := hx.1
      have c86 : ∀ {a : Int}, (0 ≤ a ∧ a ≤ 100000) → PFD Tryz.prog 140 [.agg [int (p1 : Int), int (p2 : Int)], .agg [int a, int (sp (l.getD k (0, 0, 0)))]] (qtv (plusQ (p1, p2) (lyQ a (sp (l.getD k (0, 0, 0)))))) := by
        intro a ha
        generalize sp (l.getD k (0, 0, 0)) = v at *
        obtain ⟨a, rfl⟩ : ∃ n : Nat, a = n := ⟨a.toNat, by omega⟩
        obtain ⟨v, rfl⟩ : ∃ n : Nat, v = n := ⟨v.toNat, by omega⟩
        have m1 : p1 * v ≤ 1051010050100000 * 100 := Nat.mul_le_mul (by omega) (by omega)
        have m2 : a * p2 ≤ 100000 * 10000000000 := Nat.mul_le_mul (by omega) b0
        have m3 : p2 * v ≤ 10000000000 * 100 := Nat.mul_le_mul b0 (by omega)
        exact C140 (q := (p1, p2)) (o := (a, v)) ⟨⟨hk.2.2.1.1, by simp only; omega⟩, ⟨by simp only; omega, by simp only; omega⟩, ⟨by simp only; omega, by simp only; omega⟩, by simp only; omega, by simp only; omega⟩
      have go : ∀ a : Int, 0 ≤ a → a ≤ d → 0 < (plusQ (p1, p2) (lyQ a (sp (l.getD k (0, 0, 0))))).2 ∧ (plusQ (p1, p2) (lyQ a (sp (l.getD k (0, 0, 0))))).2 ≤ 100 ^ (k + 1) ∧ (plusQ (p1, p2) (lyQ a (sp (l.getD k (0, 0, 0))))).1 ≤ 100000 * 101 ^ (k + 1) := by
        intro a ha0 ha
        have r1 := plusQ_pos (q := (p1, p2)) (o := lyQ a (sp (l.getD k (0, 0, 0)))) hk.2.2.1.1 (by simp only [lyQ]; omega)
        have r2 := plusQ_den (q := (p1, p2)) (o := lyQ a (sp (l.getD k (0, 0, 0))))
        have r3 : p2 * (lyQ a (sp (l.getD k (0, 0, 0)))).2 ≤ p2 * 100 := Nat.mul_le_mul_left _ (by simp only [lyQ]; omega)
        have r4 : p2 * 100 ≤ 100 ^ (k + 1) := by rw [Nat.pow_succ]; exact Nat.mul_le_mul_right _ hk.2.2.1.2
        have r5 := plusQ_num (q := (p1, p2)) (o := lyQ a (sp (l.getD k (0, 0, 0))))
        have r6 : p1 * (lyQ a (sp (l.getD k (0, 0, 0)))).2 ≤ p1 * 100 := Nat.mul_le_mul_left _ (by simp only [lyQ]; omega)
        have r7 : (lyQ a (sp (l.getD k (0, 0, 0)))).1 * p2 ≤ 100000 * p2 := Nat.mul_le_mul_right _ (by simp only [lyQ]; omega)
        refine ⟨r1, Nat.le_trans r2 (Nat.le_trans r3 r4), ?_⟩
        simp only at r5
        rw [Nat.pow_succ]
        omega
      (repeat' first | (refine Owe.same ?_; first | refine Owe.o ?_ | refine Owe.mk ?_ ?_) | (refine Fork.same ?_; (first | refine fkD ?_ ?_ | refine fkN ?_ ?_ | refine fkM ?_ ?_) <;> intro h) | ((first | refine OpsL.same ?_ | refine OpsDL.same ?_); first | refine pK (hg _) rfl rfl ?_ | refine pK c86 rfl rfl ?_) | refine MvQ.stay ?_)
      · have ep : latePart (k = l.length - 1) (l.getD k (0, 0, 0)).1 d = min d d := by rw [latePart, if_pos (by omega)]
        simp only [ep, ← hk.2.1] at e
        have g := go (min d d) (by omega) (by omega)
        refine again (k + 1, plusQ (p1, p2) (lyQ (min d d) (sp (l.getD k (0, 0, 0)))), d - min d d) [0, 1] ⟨by omega, e, ⟨g.1, g.2.1⟩, g.2.2, by simp only; omega, by simp only; omega⟩ (by omega) ?_
        (refine qis ?_ ?_ <;> (repeat' first | exact rfl | (refine qS ?_; constructor)))
      · have ep : latePart (k = l.length - 1) (l.getD k (0, 0, 0)).1 d = min (l.getD k (0, 0, 0)).1 d := by rw [latePart, if_neg (by omega)]
        simp only [ep, ← hk.2.1] at e
        have g := go (min (l.getD k (0, 0, 0)).1 d) (by omega) (by omega)
        refine again (k + 1, plusQ (p1, p2) (lyQ (min (l.getD k (0, 0, 0)).1 d) (sp (l.getD k (0, 0, 0)))), d - min (l.getD k (0, 0, 0)).1 d) [0, 1] ⟨by omega, e, ⟨g.1, g.2.1⟩, g.2.2, by simp only; omega, by simp only; omega⟩ (by omega) ?_
        (refine qis ?_ ?_ <;> (repeat' first | exact rfl | (refine qS ?_; constructor)))
    · (repeat' first | (refine Owe.same ?_; first | refine Owe.o ?_ | refine Owe.mk ?_ ?_) | (refine Fork.same ?_; (first | refine fkD ?_ ?_ | refine fkN ?_ ?_ | refine fkM ?_ ?_) <;> intro h) | refine MvQ.stay ?_)
      have e : q = p := by rw [hk.2.1, List.drop_of_length_le (by omega)]; rfl
      subst e
      (refine rqK rfl ?_; (repeat' first | exact rfl | (refine qS ?_; constructor)))
def lo (x : Dv) : Int := x.2.1
def hi (x : Dv) : Int := x.2.2
/-- The range of depths after a time, and that of times to a depth. -/
def dpS (l : List Dv) (T : Int) : Pr × Int := if lsE l T 100000 = 0 then ((((deepS lo T.toNat l (0, 1) 0).1 / (deepS lo T.toNat l (0, 1) 0).2 : Nat), (((deepS hi T.toNat l (0, 1) 0).1 + (deepS hi T.toNat l (0, 1) 0).2 - 1) / (deepS hi T.toNat l (0, 1) 0).2 : Nat)), 0) else ((0, 0), lsE l T 100000)
def tmS (l : List Dv) (D : Int) : Pr × Int := if lsE l D 100000 = 0 then ((((lateS hi l D (0, 1)).1 / (lateS hi l D (0, 1)).2 : Nat), (((lateS lo l D (0, 1)).1 + (lateS lo l D (0, 1)).2 - 1) / (lateS lo l D (0, 1)).2 : Nat)), 0) else ((0, 0), lsE l D 100000)
theorem lyE_ok {x : Dv} : lyE x = 0 ↔ lyOk x ∧ x.2.1 ≤ x.2.2 := by
  rw [lyE, fst2, unl0 (by decide), unl0 (by decide)]
theorem lysE_ok {l : List Dv} (h : (lysE l).2 = 0) : LyOk l := by
  rw [lysE] at h
  split at h
  · rename_i h0
    rw [cntE, fst2, unl0 (by decide), unl0 (by decide)] at h0
    refine ⟨by omega, fun i hi => lyE_ok.1 ?_⟩
    exact eachE_ok.1 h _ (by rw [List.getD_eq_getElem?_getD, List.getElem?_eq_getElem hi]; exact List.getElem_mem hi)
  · rename_i h0; exact absurd h h0
theorem deepS_bd {sp : Dv → Int} {T : Nat} (hT : T ≤ 100000) : ∀ (l : List Dv) (k : Nat) (p : Qt) (top : Nat), (∀ x ∈ l, (1 ≤ x.1 ∧ x.1 ≤ 10000) ∧ 1 ≤ sp x ∧ sp x ≤ 100) → k + l.length ≤ 6 → 0 < p.2 → p.2 ≤ 100 ^ k → p.1 ≤ T * p.2 → top ≤ 10000 * k →
    0 < (deepS sp T l p top).2 ∧ (deepS sp T l p top).2 ≤ 1000000000000 ∧ (deepS sp T l p top).1 ≤ 200000000000000000
  | [], k, p, top, _, hk, h0, h1, h2, h3 => by
    simp only [List.length_nil] at hk
    have b0 : p.2 ≤ 1000000000000 := Nat.le_trans h1 (Nat.le_trans (Nat.pow_le_pow_right (by decide) (show k ≤ 6 by omega)) (by decide))
    have b1 : T * p.2 ≤ 100000 * 1000000000000 := Nat.mul_le_mul hT b0
    simp only [deepS]; omega
  | x :: r, k, p, top, ho, hk, h0, h1, h2, h3 => by
    simp only [List.length_cons] at hk
    have hx := ho x (.head _)
    have b0 : p.2 ≤ 10000000000 := Nat.le_trans h1 (Nat.le_trans (Nat.pow_le_pow_right (by decide) (show k ≤ 5 by omega)) (by decide))
    have b1 : T * p.2 ≤ 100000 * 10000000000 := Nat.mul_le_mul hT b0
    rw [deepS]
    split
    · have b3 : top * p.2 ≤ 60000 * 10000000000 := Nat.mul_le_mul (by omega) b0
      have b4 : (T * p.2 - p.1) * (sp x).toNat ≤ 1000000000000000 * 100 := Nat.mul_le_mul (by omega) (by omega)
      refine ⟨h0, ?_, ?_⟩ <;> simp only <;> omega
    · rename_i hn
      have r1 := plusQ_pos (q := p) (o := lyQ x.1 (sp x)) h0 (by simp only [lyQ]; omega)
      have r2 := plusQ_den (q := p) (o := lyQ x.1 (sp x))
      have r3 : p.2 * (lyQ x.1 (sp x)).2 ≤ p.2 * 100 := Nat.mul_le_mul_left _ (by simp only [lyQ]; omega)
      have r4 : p.2 * 100 ≤ 100 ^ (k + 1) := by rw [Nat.pow_succ]; exact Nat.mul_le_mul_right _ h1
      exact deepS_bd hT r (k + 1) _ _ (fun y hy => ho y (.tail _ hy)) (by omega) r1 (by omega) (Nat.le_of_not_lt fun h => hn (.inr h)) (by omega)
theorem lateS_bd {sp : Dv → Int} : ∀ (l : List Dv) (k : Nat) (d : Int) (p : Qt), (∀ x ∈ l, (1 ≤ x.1 ∧ x.1 ≤ 10000) ∧ 1 ≤ sp x ∧ sp x ≤ 100) → k + l.length ≤ 6 → 0 < p.2 → p.2 ≤ 100 ^ k → p.1 ≤ 100000 * 101 ^ k → 0 ≤ d → d ≤ 100000 →
    0 < (lateS sp l d p).2 ∧ (lateS sp l d p).2 ≤ 1000000000000 ∧ (lateS sp l d p).1 ≤ 200000000000000000
  | [], k, d, p, _, hk, h0, h1, h2, h3, h4 => by
    simp only [List.length_nil] at hk
    have b0 : p.2 ≤ 1000000000000 := Nat.le_trans h1 (Nat.le_trans (Nat.pow_le_pow_right (by decide) (show k ≤ 6 by omega)) (by decide))
    have b1 : p.1 ≤ 100000 * 1061520150601 := Nat.le_trans h2 (Nat.mul_le_mul_left _ (Nat.le_trans (Nat.pow_le_pow_right (by decide) (show k ≤ 6 by omega)) (by decide)))
    simp only [lateS]; omega
  | x :: r, k, d, p, ho, hk, h0, h1, h2, h3, h4 => by
    simp only [List.length_cons] at hk
    have hx := ho x (.head _)
    have b2 : 100 ^ k ≤ 101 ^ k := Nat.pow_le_pow_left (by decide) k
    have ha : 0 ≤ latePart (r = []) x.1 d ∧ latePart (r = []) x.1 d ≤ d := by rw [latePart]; split <;> omega
    rw [lateS]
    generalize latePart (r = []) x.1 d = a at *
    have r1 := plusQ_pos (q := p) (o := lyQ a (sp x)) h0 (by simp only [lyQ]; omega)
    have r2 := plusQ_den (q := p) (o := lyQ a (sp x))
    have r3 : p.2 * (lyQ a (sp x)).2 ≤ p.2 * 100 := Nat.mul_le_mul_left _ (by simp only [lyQ]; omega)
    have r4 : p.2 * 100 ≤ 100 ^ (k + 1) := by rw [Nat.pow_succ]; exact Nat.mul_le_mul_right _ h1
    have r5 := plusQ_num (q := p) (o := lyQ a (sp x))
    have r6 : p.1 * (lyQ a (sp x)).2 ≤ p.1 * 100 := Nat.mul_le_mul_left _ (by simp only [lyQ]; omega)
    have r7 : (lyQ a (sp x)).1 * p.2 ≤ 100000 * p.2 := Nat.mul_le_mul_right _ (by simp only [lyQ]; omega)
    exact lateS_bd r (k + 1) _ _ (fun y hy => ho y (.tail _ hy)) (by omega) r1 (by omega) (by rw [Nat.pow_succ]; omega) (by omega) (by omega)
theorem LyOk.mem {l : List Dv} (hO : LyOk l) {x : Dv} (hx : x ∈ l) : lyOk x ∧ x.2.1 ≤ x.2.2 := by
  obtain ⟨i, hi, rfl⟩ := List.mem_iff_getElem.1 hx
  have := hO.ok i hi
  rwa [List.getD_eq_getElem?_getD, List.getElem?_eq_getElem hi] at this
theorem C37 {l : List Dv} {T : Int} : l.length ≤ 1000000 → PFD Tryz.prog 37 [.c (trs l), vi .i64 T] (.tup [pr (dpS l T).1, vi .i64 (dpS l T).2]) := fun hl => by
  by_cases h0 : lsE l T 100000 = 0
  · rw [dpS, if_pos h0]
    have hh := fst2.1 (show fstE [(lysE l).2, unl (0 ≤ T ∧ T ≤ 100000) 2] = 0 from h0)
    have hO := lysE_ok hh.1
    have hT := (unl0 (by decide)).1 hh.2
    have hn := hO.n
    have c1 := C95 (g := 96) (sp := lo) (fun x => C96) (l := l) (T := T.toNat) ⟨hO, fun i hi => by have := hO.ok i hi; simp only [lo]; omega, by omega⟩
    have c2 := C95 (g := 98) (sp := hi) (fun x => C98) (l := l) (T := T.toNat) ⟨hO, fun i hi => by have := hO.ok i hi; simp only [Pw.hi]; omega, by omega⟩
    have d1 := deepS_bd (sp := lo) (T := T.toNat) (by omega) l 0 (0, 1) 0 (fun x hx => by have := hO.mem hx; simp only [lo]; omega) (by omega) (by decide) (by decide) (by simp) (by simp)
    have d2 := deepS_bd (sp := hi) (T := T.toNat) (by omega) l 0 (0, 1) 0 (fun x hx => by have := hO.mem hx; simp only [hi]; omega) (by omega) (by decide) (by decide) (by simp) (by simp)
    rw [show ((T.toNat : Nat) : Int) = T by omega] at c1 c2
    generalize deepS lo T.toNat l (0, 1) 0 = p at *
    generalize deepS hi T.toNat l (0, 1) 0 = q at *
    refine pi2 fn37 ?_
    (repeat' first | (refine Owe.same ?_; first | refine Owe.o ?_ | refine Owe.mk ?_ ?_) | (refine Fork.same ?_; (first | refine fkD ?_ ?_ | refine fkN ?_ ?_ | refine fkM ?_ ?_) <;> intro h) | ((first | refine OpsL.same ?_ | refine OpsDL.same ?_); first | refine oK (C94 hl) rfl rfl rfl ?_ | refine oK c1 rfl rfl rfl ?_ | refine oK c2 rfl rfl rfl ?_ | refine oK C97 rfl rfl rfl ?_ | refine oK C99 rfl rfl rfl ?_) | refine MvQ.stay ?_)
    · exact absurd h0 h
    · (refine rqK rfl ?_; (repeat' first | exact rfl | (refine qS ?_; constructor)))
  · rw [dpS, if_neg h0]
    refine pi2 fn37 ?_
    (repeat' first | (refine Owe.same ?_; first | refine Owe.o ?_ | refine Owe.mk ?_ ?_) | (refine Fork.same ?_; (first | refine fkD ?_ ?_ | refine fkN ?_ ?_ | refine fkM ?_ ?_) <;> intro h) | ((first | refine OpsL.same ?_ | refine OpsDL.same ?_); first | refine pK (C94 hl) rfl rfl ?_) | refine MvQ.stay ?_)
    · (refine rqK rfl ?_; (repeat' first | exact rfl | (refine qS ?_; constructor)))
    · exact absurd h h0
theorem C38 {l : List Dv} {D : Int} : l.length ≤ 1000000 → PFD Tryz.prog 38 [.c (trs l), vi .i64 D] (.tup [pr (tmS l D).1, vi .i64 (tmS l D).2]) := fun hl => by
  by_cases h0 : lsE l D 100000 = 0
  · rw [tmS, if_pos h0]
    have hh := fst2.1 (show fstE [(lysE l).2, unl (0 ≤ D ∧ D ≤ 100000) 2] = 0 from h0)
    have hO := lysE_ok hh.1
    have hT := (unl0 (by decide)).1 hh.2
    have hn := hO.n
    have c1 := C100 (g := 96) (sp := lo) (fun x => C96) (l := l) (D := D) ⟨hO, fun i hi => by have := hO.ok i hi; simp only [lo]; omega, by omega⟩
    have c2 := C100 (g := 98) (sp := hi) (fun x => C98) (l := l) (D := D) ⟨hO, fun i hi => by have := hO.ok i hi; simp only [Pw.hi]; omega, by omega⟩
    have d1 := lateS_bd (sp := lo) l 0 D (0, 1) (fun x hx => by have := hO.mem hx; simp only [lo]; omega) (by omega) (by decide) (by decide) (by simp) hT.1 hT.2
    have d2 := lateS_bd (sp := hi) l 0 D (0, 1) (fun x hx => by have := hO.mem hx; simp only [hi]; omega) (by omega) (by decide) (by decide) (by simp) hT.1 hT.2
    generalize lateS lo l D (0, 1) = p at *
    generalize lateS hi l D (0, 1) = q at *
    refine pi2 fn38 ?_
    (repeat' first | (refine Owe.same ?_; first | refine Owe.o ?_ | refine Owe.mk ?_ ?_) | (refine Fork.same ?_; (first | refine fkD ?_ ?_ | refine fkN ?_ ?_ | refine fkM ?_ ?_) <;> intro h) | ((first | refine OpsL.same ?_ | refine OpsDL.same ?_); first | refine oK (C94 hl) rfl rfl rfl ?_ | refine oK c1 rfl rfl rfl ?_ | refine oK c2 rfl rfl rfl ?_ | refine oK C97 rfl rfl rfl ?_ | refine oK C99 rfl rfl rfl ?_) | refine MvQ.stay ?_)
    · exact absurd h0 h
    · (refine rqK rfl ?_; (repeat' first | exact rfl | (refine qS ?_; constructor)))
  · rw [tmS, if_neg h0]
    refine pi2 fn38 ?_
    (repeat' first | (refine Owe.same ?_; first | refine Owe.o ?_ | refine Owe.mk ?_ ?_) | (refine Fork.same ?_; (first | refine fkD ?_ ?_ | refine fkN ?_ ?_ | refine fkM ?_ ?_) <;> intro h) | ((first | refine OpsL.same ?_ | refine OpsDL.same ?_); first | refine pK (C94 hl) rfl rfl ?_) | refine MvQ.stay ?_)
    · (refine rqK rfl ?_; (repeat' first | exact rfl | (refine qS ?_; constructor)))
    · exact absurd h h0
end Go.Pw

set_option linter.unusedSimpArgs false
set_option linter.unusedVariables false
namespace Go.Pw
/-- What a function says along a range of numbers, one after the other. -/
def catR {α : Type} (f : Int → List α) (a : Int) : Nat → List α
  | 0 => []
  | k + 1 => catR f a k ++ f (a + k)
section
variable {α β : Type} {f g : Int → List α}
theorem catR_len {a : Int} {c k : Nat} (h : ∀ x, (f x).length ≤ c) : (catR f a k).length ≤ k * c := by
  induction k with
  | zero => exact Nat.zero_le _
  | succ k ih => rw [catR, List.length_append, Nat.succ_mul]; have := h (a + k); omega
theorem catR_mem {a : Int} {k : Nat} {x : α} : x ∈ catR f a k ↔ ∃ i : Nat, i < k ∧ x ∈ f (a + i) := by
  induction k with
  | zero => simp [catR]
  | succ k ih =>
    rw [catR, List.mem_append, ih]
    constructor
    · rintro (⟨i, hi, h⟩ | h)
      · exact ⟨i, by omega, h⟩
      · exact ⟨k, by omega, h⟩
    · rintro ⟨i, hi, h⟩
      by_cases hk : i = k
      · subst hk; exact .inr h
      · exact .inl ⟨i, by omega, h⟩
end
abbrev Cel := Int × Int
abbrev Ry := Cel × Cel × Bool
def Ry.dx (r : Ry) : Int := r.2.1.1 - r.1.1
def Ry.dy (r : Ry) : Int := r.2.1.2 - r.1.2
def Ry.mid (r : Ry) (x y : Int) : Int := r.dx * 2 * (y - r.1.2) - r.dy * 2 * (x - r.1.1)
def sz (n : Int) : Int := max n (-n)
/-- In the rectangle of both ends a ray crosses this cell. -/
def crs (r : Ry) (x y : Int) : Bool := decide (sz (r.mid x y) < sz r.dx + sz r.dy ∨ (r.dx = 0 ∧ r.dy = 0))
def crC (r : Ry) (y x : Int) : List Cel := if crs r x y then [(x, y)] else []
def Ry.x0 (r : Ry) : Int := min r.1.1 r.2.1.1
def Ry.y0 (r : Ry) : Int := min r.1.2 r.2.1.2
def Ry.wn (r : Ry) : Nat := (sz r.dx).toNat + 1
def Ry.hn (r : Ry) : Nat := (sz r.dy).toNat + 1
def crR (r : Ry) (y : Int) : List Cel := catR (crC r y) r.x0 r.wn
/-- The cells that a ray crosses. -/
def crS (r : Ry) : List Cel := catR (crR r) r.y0 r.hn
def inG (c : Cel) (w h : Int) : Prop := (0 ≤ c.1 ∧ c.1 ≤ w - 1) ∧ 0 ≤ c.2 ∧ c.2 ≤ h - 1
instance (c : Cel) (w h : Int) : Decidable (inG c w h) := by unfold inG; infer_instance
def ryOk (r : Ry) (w h : Int) : Prop := inG r.1 w h ∧ inG r.2.1 w h
instance (r : Ry) (w h : Int) : Decidable (ryOk r w h) := by unfold ryOk; infer_instance
theorem crC_len (r : Ry) (y x : Int) : (crC r y x).length ≤ 1 := by rw [crC]; split <;> simp
theorem crR_len {r : Ry} {y : Int} : (crR r y).length ≤ r.wn := by have := catR_len (a := r.x0) (k := r.wn) (crC_len r y); rw [crR]; omega
theorem wn_le {r : Ry} {w h : Int} (ho : ryOk r w h) : (r.wn : Int) ≤ w := by
  have h1 := ho.1.1; have h2 := ho.2.1
  rw [Ry.wn, Ry.dx, sz]; omega
theorem hn_le {r : Ry} {w h : Int} (ho : ryOk r w h) : (r.hn : Int) ≤ h := by
  have h1 := ho.1.2; have h2 := ho.2.2
  rw [Ry.hn, Ry.dy, sz]; omega
theorem mem_crC {r : Ry} {x y : Int} {c : Cel} : c ∈ crC r y x ↔ crs r x y = true ∧ c = (x, y) := by
  rw [crC]; split <;> simp_all
/-- Every cell that is crossed lies in the rectangle of both ends. -/
theorem crS_mem {r : Ry} {c : Cel} : c ∈ crS r ↔ crs r c.1 c.2 = true ∧ (r.x0 ≤ c.1 ∧ c.1 < r.x0 + r.wn) ∧ r.y0 ≤ c.2 ∧ c.2 < r.y0 + r.hn := by
  rw [crS, catR_mem]
  constructor
  · rintro ⟨i, hi, h⟩
    obtain ⟨j, hj, h1⟩ := catR_mem.1 h
    obtain ⟨h2, rfl⟩ := mem_crC.1 h1
    exact ⟨h2, ⟨by simp only; omega, by simp only; omega⟩, by simp only; omega, by simp only; omega⟩
  · rintro ⟨h, hx, hy⟩
    refine ⟨(c.2 - r.y0).toNat, by omega, catR_mem.2 ⟨(c.1 - r.x0).toNat, by omega, mem_crC.2 ?_⟩⟩
    have e1 : r.x0 + ((c.1 - r.x0).toNat : Int) = c.1 := by omega
    have e2 : r.y0 + ((c.2 - r.y0).toNat : Int) = c.2 := by omega
    rw [e1, e2]; exact ⟨h, rfl⟩
theorem crS_len {r : Ry} : (crS r).length ≤ r.hn * r.wn := catR_len fun _ => crR_len
end Go.Pw

set_option linter.unusedSimpArgs false
set_option linter.unusedVariables false
namespace Go.Pw
set_option maxRecDepth 2000
open Go Go.Proofs A1 A2 A3 A4
abbrev r5 (r : Ry) : List D := [dI r.1.1, dI r.1.2, dI r.2.1.1, dI r.2.1.2, .v (.bool r.2.2)]
abbrev ryd : Ry := ((0, 0), (0, 0), false)
abbrev rys (l : List Ry) : C := slv 5 r5 ryd l
abbrev ryv (r : Ry) : V := .agg [int r.1.1, int r.1.2, int r.2.1.1, int r.2.1.2, .d (.v (.bool r.2.2))]
theorem C151 {c : Pr} {w g : Int} : ((-1000000 ≤ w ∧ w ≤ 1000000) ∧ -1000000 ≤ g ∧ g ≤ 1000000) → PFD Tryz.prog 151 [pr c, vi .i64 w, vi .i64 g] (vbl (decide (inG c w g))) := fun ⟨hw, hh⟩ => by
  refine pi1 fn151 ?_
  (repeat' first | (refine Owe.same ?_; first | refine Owe.o ?_ | refine Owe.mk ?_ ?_) | (refine Fork.same ?_; (first | refine fkD ?_ ?_ | refine fkN ?_ ?_ | refine fkM ?_ ?_) <;> intro h) | ((first | refine OpsL.same ?_ | refine OpsDL.same ?_); first | refine pK C84 rfl rfl ?_) | refine MvQ.stay ?_)
  · (refine rqK rfl ?_; (repeat' first | exact rfl | (refine qS ?_; constructor)))
    exact decide_eq_decide.2 ⟨fun hh => ⟨h, hh⟩, fun hh => hh.2⟩
  · (refine rqK rfl ?_; (repeat' first | exact rfl | (refine qS ?_; constructor)))
    rw [decide_eq_false]; exact fun hh => h hh.1
theorem C109 {r : Ry} {w g : Int} : ((-1000000 ≤ w ∧ w ≤ 1000000) ∧ -1000000 ≤ g ∧ g ≤ 1000000) → PFD Tryz.prog 109 [ryv r, vi .i64 w, vi .i64 g] (vi .i64 (unl (ryOk r w g) 6)) := fun ⟨hw, hh⟩ => by
  refine pi1 fn109 ?_
  (repeat' first | (refine Owe.same ?_; first | refine Owe.o ?_ | refine Owe.mk ?_ ?_) | (refine Fork.same ?_; (first | refine fkD ?_ ?_ | refine fkN ?_ ?_ | refine fkM ?_ ?_) <;> intro h) | ((first | refine OpsL.same ?_ | refine OpsDL.same ?_); first | refine pK C151 rfl rfl ?_ | refine pK C85 rfl rfl ?_) | refine MvQ.stay ?_)
  · (refine rqK rfl ?_; (repeat' first | exact rfl | (refine qS ?_; constructor)))
    rw [unl]; congr 1; exact decide_eq_decide.2 ⟨fun hh => ⟨h, hh⟩, fun hh => hh.2⟩
  · (refine rqK rfl ?_; (repeat' first | exact rfl | (refine qS ?_; constructor)))
    rw [unl, decide_eq_false]; exact fun hh => h hh.1
theorem mulb {a b : Int} (ha : -12 ≤ a ∧ a ≤ 12) (hb : -12 ≤ b ∧ b ≤ 12) : -288 ≤ a * 2 * b ∧ a * 2 * b ≤ 288 := by
  have h1 : (a * 2) * b ≤ 288 ∧ -288 ≤ (a * 2) * b := by
    have e : (a * 2) * b = 2 * (a * b) := by rw [Int.mul_comm a 2, Int.mul_assoc]
    rw [e]
    have : a.natAbs * b.natAbs ≤ 12 * 12 := Nat.mul_le_mul (by omega) (by omega)
    rw [← Int.natAbs_mul] at this
    omega
  omega
theorem C152 {r : Ry} : ryOk r 12 12 → PFD Tryz.prog 152 [ryv r] (.c (prs (crS r))) := fun hO => by
  obtain ⟨⟨fx, fy⟩, ⟨tx, ty⟩, b⟩ := r
  obtain ⟨⟨hx1, hy1⟩, hx2, hy2⟩ := hO
  simp only at hx1 hy1 hx2 hy2
  have hwn : ((Ry.wn ((fx, fy), (tx, ty), b) : Nat) : Int) = max fx tx - min fx tx + 1 := by simp only [Ry.wn, Ry.dx, sz]; omega
  have hhn : ((Ry.hn ((fx, fy), (tx, ty), b) : Nat) : Int) = max fy ty - min fy ty + 1 := by simp only [Ry.hn, Ry.dy, sz]; omega
  obtain ⟨S, hS⟩ : ∃ S, S = crS ((fx, fy), (tx, ty), b) := ⟨_, rfl⟩
  rw [← hS]
  refine pi1 fn152 ?_
  (repeat' first | (refine Owe.same ?_; first | refine Owe.o ?_ | refine Owe.mk ?_ ?_) | (refine Fork.same ?_; (first | refine fkD ?_ ?_ | refine fkN ?_ ?_ | refine fkM ?_ ?_) <;> intro h) | refine MvQ.stay ?_)
  refine Sat.nilS 5 149 2 (fun i => r2 (([] : List Pr).getD i (0, 0))) rfl ?_
  refine Sat.lp (fun s : Int × List Pr => ⟨[(6, vi .i64 s.1), (3, vi .i64 (tx - fx)), (4, vi .i64 (ty - fy)), (1, .c (.rp [dI fx, dI fy, dI tx, dI ty, .v (.bool b)])), (5, .c (.ms 0 s.2.length))], [(0, rowv 149 2 r2 (0, 0) s.2)], 1⟩)
    (fun s => (min fy ty ≤ s.1 ∧ s.1 ≤ max fy ty + 1) ∧ s.2 = catR (crR ((fx, fy), (tx, ty), b)) (min fy ty) (s.1 - min fy ty).toNat) (fun s => (max fy ty + 1 - s.1).toNat) (min fy ty, []) [16] ?_ ?_ ?_
  · refine ⟨by simp only; omega, ?_⟩
    simp only [Int.sub_self]; rfl
  · (refine qis ?_ ?_ <;> (repeat' first | exact rfl | (refine qS ?_; constructor)))
  · intro ⟨y, out⟩ hk
    simp only at hk ⊢
    have hol : out.length ≤ (y - min fy ty).toNat * Ry.wn ((fx, fy), (tx, ty), b) := by rw [hk.2]; exact catR_len fun _ => crR_len
    have hol2 : (y - min fy ty).toNat * Ry.wn ((fx, fy), (tx, ty), b) ≤ 12 * 12 := Nat.mul_le_mul (by omega) (by omega)
    (repeat' first | (refine Owe.same ?_; first | refine Owe.o ?_ | refine Owe.mk ?_ ?_) | (refine Fork.same ?_; (first | refine fkD ?_ ?_ | refine fkN ?_ ?_ | refine fkM ?_ ?_) <;> intro h) | refine MvQ.stay ?_)
    · refine Sat.lp (fun s : Int × List Pr => ⟨[(7, vi .i64 s.1), (6, vi .i64 y), (3, vi .i64 (tx - fx)), (4, vi .i64 (ty - fy)), (1, .c (.rp [dI fx, dI fy, dI tx, dI ty, .v (.bool b)])), (5, .c (.ms 0 s.2.length))], [(0, rowv 149 2 r2 (0, 0) s.2)], 1⟩)
        (fun s => (min fx tx ≤ s.1 ∧ s.1 ≤ max fx tx + 1) ∧ s.2 = out ++ catR (crC ((fx, fy), (tx, ty), b) y) (min fx tx) (s.1 - min fx tx).toNat) (fun s => (max fx tx + 1 - s.1).toNat) (min fx tx, out) [0] ?_ ?_ ?_
      · refine ⟨by simp only; omega, ?_⟩
        simp only [Int.sub_self]; exact (List.append_nil _).symm
      · (refine qis ?_ ?_ <;> (repeat' first | exact rfl | (refine qS ?_; constructor)))
      · intro ⟨x, o⟩ hj
        simp only at hj ⊢
        have hjl := catR_len (f := crC ((fx, fy), (tx, ty), b) y) (a := min fx tx) (k := (x - min fx tx).toNat) (crC_len _ _)
        have hjl : o.length ≤ 200 := by rw [hj.2, List.length_append]; omega
        have hs : catR (crC ((fx, fy), (tx, ty), b) y) (min fx tx) (x + 1 - min fx tx).toNat = catR (crC ((fx, fy), (tx, ty), b) y) (min fx tx) (x - min fx tx).toNat ++ crC ((fx, fy), (tx, ty), b) y x := by
          have e : (x + 1 - min fx tx).toNat = (x - min fx tx).toNat + 1 := by omega
          rw [e, catR]; congr 2; omega
        have m1 := mulb (a := tx - fx) (b := y - fy) (by omega) (by omega)
        have m2 := mulb (a := ty - fy) (b := x - fx) (by omega) (by omega)
        (repeat' first | (refine Owe.same ?_; first | refine Owe.o ?_ | refine Owe.mk ?_ ?_) | (refine Fork.same ?_; (first | refine fkD ?_ ?_ | refine fkN ?_ ?_ | refine fkM ?_ ?_) <;> intro h) | ((first | refine OpsL.same ?_ | refine OpsDL.same ?_); first | refine pK C137 rfl rfl ?_) | refine MvQ.stay ?_)
        · have hc : crC ((fx, fy), (tx, ty), b) y x = [(x, y)] := by
            rw [crC, if_pos]; rw [crs]; exact decide_eq_true (.inl h)
          rw [hc] at hs
          refine again (x + 1, o ++ [(x, y)]) [1] ⟨by simp only; omega, by simp only; rw [hs, hj.2, List.append_assoc]⟩ (by simp only; omega) ?_
          (refine qis ?_ ?_ <;> (repeat' first | exact rfl | (refine qS ?_; constructor)))
          simp
        · rename_i h0 h1 h2
          have hc : crC ((fx, fy), (tx, ty), b) y x = [(x, y)] := by
            rw [crC, if_pos]; rw [crs]; exact decide_eq_true (.inr ⟨h2, h⟩)
          rw [hc] at hs
          refine again (x + 1, o ++ [(x, y)]) [1] ⟨by simp only; omega, by simp only; rw [hs, hj.2, List.append_assoc]⟩ (by simp only; omega) ?_
          (refine qis ?_ ?_ <;> (repeat' first | exact rfl | (refine qS ?_; constructor)))
          simp
        · rename_i h0 h1 h2
          have hc : crC ((fx, fy), (tx, ty), b) y x = [] := by
            rw [crC, if_neg]; rw [crs]; exact fun hh => (of_decide_eq_true hh).elim h1 fun hq => h hq.2
          rw [hc, List.append_nil] at hs
          refine again (x + 1, o) [0] ⟨by simp only; omega, by simp only; rw [hs, hj.2]⟩ (by simp only; omega) ?_
          (refine qis ?_ ?_ <;> (repeat' first | exact rfl | (refine qS ?_; constructor)))
        · rename_i h0 h1
          have hc : crC ((fx, fy), (tx, ty), b) y x = [] := by
            rw [crC, if_neg]; rw [crs]; exact fun hh => (of_decide_eq_true hh).elim h1 fun hq => h hq.1
          rw [hc, List.append_nil] at hs
          refine again (x + 1, o) [0] ⟨by simp only; omega, by simp only; rw [hs, hj.2]⟩ (by simp only; omega) ?_
          (refine qis ?_ ?_ <;> (repeat' first | exact rfl | (refine qS ?_; constructor)))
        · have e : (x - min fx tx).toNat = Ry.wn ((fx, fy), (tx, ty), b) := by omega
          have e2 : (y + 1 - min fy ty).toNat = (y - min fy ty).toNat + 1 := by omega
          refine again (y + 1, o) [0] ⟨by simp only; omega, ?_⟩ (by simp only; omega) ?_
          · simp only
            rw [e2, catR, hj.2, hk.2, e]
            congr 1
            have : min fy ty + ((y - min fy ty).toNat : Int) = y := by omega
            rw [this]; rfl
          · (refine qis ?_ ?_ <;> (repeat' first | exact rfl | (refine qS ?_; constructor)))
    · have e : out = S := by
        rw [hk.2, hS, crS]
        have : (y - min fy ty).toNat = Ry.hn ((fx, fy), (tx, ty), b) := by omega
        rw [this]; rfl
      subst e
      (repeat' first | (refine Owe.same ?_; first | refine Owe.o ?_ | refine Owe.mk ?_ ?_) | (refine Fork.same ?_; (first | refine fkD ?_ ?_ | refine fkN ?_ ?_ | refine fkM ?_ ?_) <;> intro h) | refine MvQ.stay ?_)
      refine rqF 0 _ rfl rfl rfl ?_; (repeat' first | exact rfl | (refine qS ?_; constructor))
end Go.Pw

set_option linter.unusedSimpArgs false
set_option linter.unusedVariables false
namespace Go.Pw
set_option maxRecDepth 2000
open Go Go.Proofs A1 A2 A3 A4
abbrev Sc := Int × Int × List Ry
abbrev rysD (l : List Ry) : D := .sl 5 l.length fun i => r5 (l.getD i ryd)
abbrev scD (s : Sc) : List D := [dI s.1, dI s.2.1, rysD s.2.2]
abbrev scv (s : Sc) : V := .agg [int s.1, int s.2.1, rys s.2.2]
theorem C150 {n : Int} : PFD Tryz.prog 150 [vi .i64 n] (vbl (decide (1 ≤ n ∧ n ≤ 12))) := by
  refine pi1 fn150 ?_
  (repeat' first | (refine Owe.same ?_; first | refine Owe.o ?_ | refine Owe.mk ?_ ?_) | (refine Fork.same ?_; (first | refine fkD ?_ ?_ | refine fkN ?_ ?_ | refine fkM ?_ ?_) <;> intro h) | ((first | refine OpsL.same ?_ | refine OpsDL.same ?_); first | refine pK C84 rfl rfl ?_) | refine MvQ.stay ?_)
  (refine rqK rfl ?_; (repeat' first | exact rfl | (refine qS ?_; constructor)))
/-- The error of columns and rows, and of the number of rays. -/
def gridE (w h : Int) (n : Int) : Int := fstE [unl ((1 ≤ w ∧ w ≤ 12) ∧ 1 ≤ h ∧ h ≤ 12) 2, unl (n ≤ 10) 8]
theorem unl_of {p : Prop} [Decidable p] {b : Bool} {e : Int} (h : b = decide p) : unb b e = unl p e := by subst h; rfl
theorem C106 {w g n : Int} : PFD Tryz.prog 106 [vi .i64 w, vi .i64 g, vi .i64 n] (vi .i64 (gridE w g n)) := by
  refine pi1 fn106 ?_
  (repeat' first | (refine Owe.same ?_; first | refine Owe.o ?_ | refine Owe.mk ?_ ?_) | (refine Fork.same ?_; (first | refine fkD ?_ ?_ | refine fkN ?_ ?_ | refine fkM ?_ ?_) <;> intro h) | ((first | refine OpsL.same ?_ | refine OpsDL.same ?_); first | refine pK C150 rfl rfl ?_ | refine pK C85 rfl rfl ?_ | refine pK C71 rfl rfl ?_) | refine MvQ.stay ?_)
  · (refine rqK rfl ?_; (repeat' first | exact rfl | (refine qS ?_; constructor)))
    rw [gridE, ← unl_of (decide_eq_decide.2 ⟨fun hh => ⟨h, hh⟩, fun hh => hh.2⟩)]
  · (refine rqK rfl ?_; (repeat' first | exact rfl | (refine qS ?_; constructor)))
    rw [gridE, ← unl_of (decide_eq_false fun hh => h hh.1).symm]
theorem C118 {i : Int} {r : Ry} {w g : Int} {d : D} : ((-1000000 ≤ w ∧ w ≤ 1000000) ∧ -1000000 ≤ g ∧ g ≤ 1000000) → PFD Tryz.prog 118 [vi .i64 i, ryv r, .c (.rp [dI w, dI g, d])] (vi .i64 (unl (ryOk r w g) 6)) := fun hw => by
  refine pi1 fn118 ?_
  (repeat' first | (refine Owe.same ?_; first | refine Owe.o ?_ | refine Owe.mk ?_ ?_) | (refine Fork.same ?_; (first | refine fkD ?_ ?_ | refine fkN ?_ ?_ | refine fkM ?_ ?_) <;> intro h) | ((first | refine OpsL.same ?_ | refine OpsDL.same ?_); first | refine pK C109 rfl rfl ?_) | refine MvQ.stay ?_)
  (refine rqK rfl ?_; (repeat' first | exact rfl | (refine qS ?_; constructor)))
theorem C117 {g : FuncId} {rows : List (List D)} {f : Ry → Int} (hg : ∀ (i : Int) (x : Ry), PFD Tryz.prog g (vi .i64 i :: ryv x :: rows.map fun r => .c (.rp r)) (vi .i64 (f x))) {l : List Ry} : l.length ≤ 1000000 → PFD Tryz.prog 117 [.c (rys l), .c (.fnR g rows)] (.tup [vi .i64 (eachE f 0 l).1, vi .i64 (eachE f 0 l).2]) := fun hl => by
  refine pi2 fn117 ?_
  (repeat' first | (refine Owe.same ?_; first | refine Owe.o ?_ | refine Owe.mk ?_ ?_) | (refine Fork.same ?_; (first | refine fkD ?_ ?_ | refine fkN ?_ ?_ | refine fkM ?_ ?_) <;> intro h) | refine MvQ.stay ?_)
  refine Sat.lp0 (fun k : Nat => [(11, vi .i64 k), (10, vi .i64 l.length), (9, .c (rys l)), (1, .c (.fnR g rows))]) (fun k => k ≤ l.length ∧ eachE f 0 l = eachE f k (l.drop k)) (fun k => l.length - k) 0 ⟨Nat.zero_le _, rfl⟩ (by ((first | refine qen ?_ | refine qvs ?_ | refine qeq ?_ | refine qst ?_ | refine qv ?_ | refine qc ?_ | refine qe ?_ | refine qcs ?_ | skip); (repeat' first | exact rfl | (refine qS ?_; constructor)))) ?_
  intro k hk
  (repeat' first | (refine Owe.same ?_; first | refine Owe.o ?_ | refine Owe.mk ?_ ?_) | (refine Fork.same ?_; (first | refine fkD ?_ ?_ | refine fkN ?_ ?_ | refine fkM ?_ ?_) <;> intro h) | ((first | refine OpsL.same ?_ | refine OpsDL.same ?_); first | refine pR (hg _ (l.getD k ryd)) rfl rfl ?_) | refine MvQ.stay ?_)
  · have e := eachE_drop f ryd l k (by omega)
    have h : ¬ f (l.getD k ryd) = 0 := h
    rw [if_neg h, ← hk.2] at e
    (refine rqK rfl ?_; (repeat' first | exact rfl | (refine qS ?_; constructor))) <;> rw [e]
  · have e := eachE_drop f ryd l k (by omega)
    have h : f (l.getD k ryd) = 0 := h
    rw [if_pos h, ← hk.2] at e
    exact again0 (k + 1) ⟨by omega, e⟩ (by omega) (by ((first | refine qen ?_ | refine qvs ?_ | refine qeq ?_ | refine qst ?_ | refine qv ?_ | refine qc ?_ | refine qe ?_ | refine qcs ?_ | skip); (repeat' first | exact rfl | (refine qS ?_; constructor))))
  · have e : eachE f 0 l = (0, 0) := by rw [hk.2, List.drop_of_length_le (by omega)]; rfl
    (refine rqK rfl ?_; (repeat' first | exact rfl | (refine qS ?_; constructor))) <;> rw [e]
/-- The error of a scene, with the index of a ray. -/
def scE (s : Sc) : Int × Int := if gridE s.1 s.2.1 s.2.2.length = 0 then eachE (fun r => unl (ryOk r s.1 s.2.1) 6) 0 s.2.2 else (0, gridE s.1 s.2.1 s.2.2.length)
theorem gridE_ok {w h n : Int} : gridE w h n = 0 ↔ ((1 ≤ w ∧ w ≤ 12) ∧ 1 ≤ h ∧ h ≤ 12) ∧ n ≤ 10 := by
  rw [gridE, fst2, unl0 (by decide), unl0 (by decide)]
theorem C55 {s : Sc} : s.2.2.length ≤ 1000000 → PFD Tryz.prog 55 [scv s] (.tup [vi .i64 (scE s).1, vi .i64 (scE s).2]) := fun hl => by
  obtain ⟨w, g, l⟩ := s
  refine pi2 fn55 ?_
  (repeat' first | (refine Owe.same ?_; first | refine Owe.o ?_ | refine Owe.mk ?_ ?_) | (refine Fork.same ?_; (first | refine fkD ?_ ?_ | refine fkN ?_ ?_ | refine fkM ?_ ?_) <;> intro h) | ((first | refine OpsL.same ?_ | refine OpsDL.same ?_); first | refine pK C106 rfl rfl ?_) | refine MvQ.stay ?_)
  · have h : ¬ gridE w g l.length = 0 := h
    (refine rqK rfl ?_; (repeat' first | exact rfl | (refine qS ?_; constructor))) <;> rw [scE, if_neg h]
  · have h : gridE w g l.length = 0 := h
    have hr : scE (w, g, l) = eachE (fun r => unl (ryOk r w g) 6) 0 l := by rw [scE, if_pos h]
    rw [hr]
    have hb := gridE_ok.1 h
    have c1 := C117 (g := 118) (rows := [scD (w, g, l)]) (f := fun r => unl (ryOk r w g) 6) (fun i x => C118 (w := w) (g := g) (d := rysD l) ⟨by omega, by omega⟩) (l := l) hl
    (repeat' first | (refine Owe.same ?_; first | refine Owe.o ?_ | refine Owe.mk ?_ ?_) | (refine Fork.same ?_; (first | refine fkD ?_ ?_ | refine fkN ?_ ?_ | refine fkM ?_ ?_) <;> intro h) | ((first | refine OpsL.same ?_ | refine OpsDL.same ?_); first | refine pK c1 rfl rfl ?_) | refine MvQ.stay ?_)
    (refine rqK rfl ?_; (repeat' first | exact rfl | (refine qS ?_; constructor)))
theorem C119 {s : Sc} : s.2.2.length ≤ 1000000 → PFD Tryz.prog 119 [scv s] (vi .i64 (scE s).2) := fun hl => by
  refine pi1 fn119 ?_
  (repeat' first | (refine Owe.same ?_; first | refine Owe.o ?_ | refine Owe.mk ?_ ?_) | (refine Fork.same ?_; (first | refine fkD ?_ ?_ | refine fkN ?_ ?_ | refine fkM ?_ ?_) <;> intro h) | ((first | refine OpsL.same ?_ | refine OpsDL.same ?_); first | refine pK (C55 hl) rfl rfl ?_) | refine MvQ.stay ?_)
  (refine rqK rfl ?_; (repeat' first | exact rfl | (refine qS ?_; constructor)))
theorem C154 {c : Pr} {w : Int} : ((0 ≤ c.2 ∧ c.2 ≤ 1000) ∧ (0 ≤ c.1 ∧ c.1 ≤ 1000) ∧ 0 ≤ w ∧ w ≤ 1000) → PFD Tryz.prog 154 [pr c, vi .i64 w] (vi .i64 (c.2 * w + c.1)) := fun ⟨h1, h2, h3⟩ => by
  have m : 0 ≤ c.2 * w ∧ c.2 * w ≤ 1000 * 1000 := ⟨Int.mul_nonneg h1.1 h3.1, Int.mul_le_mul h1.2 h3.2 h3.1 (by decide)⟩
  refine pi1 fn154 ?_
  (repeat' first | (refine Owe.same ?_; first | refine Owe.o ?_ | refine Owe.mk ?_ ?_) | (refine Fork.same ?_; (first | refine fkD ?_ ?_ | refine fkN ?_ ?_ | refine fkM ?_ ?_) <;> intro h) | refine MvQ.stay ?_)
  (refine rqK rfl ?_; (repeat' first | exact rfl | (refine qS ?_; constructor)))
def idxE (n : Int) : Int → List Int → Int
  | _, [] => -1
  | k, x :: l => if n = x then k else idxE n (k + 1) l
theorem idxE_drop (n : Int) (l : List Int) (k : Nat) (h : k < l.length) : idxE n k (l.drop k) = if n = l.getD k 0 then (k : Int) else idxE n ((k + 1 : Nat) : Int) (l.drop (k + 1)) := by
  have e : l.drop k = l.getD k 0 :: l.drop (k + 1) := by
    rw [List.getD_eq_getElem?_getD, List.getElem?_eq_getElem h]; exact List.drop_eq_getElem_cons h
  rw [e, idxE]; rfl
theorem idxE_ge (n : Int) : ∀ (l : List Int) (k : Int), 0 ≤ k → (0 ≤ idxE n k l ↔ n ∈ l)
  | [], k, _ => by simp [idxE]
  | x :: l, k, hk => by
    rw [idxE]
    split
    · rename_i h; subst h; simp [hk]
    · rename_i h; rw [idxE_ge n l (k + 1) (by omega), List.mem_cons]; simp [h]
theorem C160 {l : List Int} {n : Int} : l.length ≤ 1000000 → PFD Tryz.prog 160 [.c (ints l), vi .i64 n] (vi .i64 (idxE n 0 l)) := fun hl => by
  refine pi1 fn160 ?_
  (repeat' first | (refine Owe.same ?_; first | refine Owe.o ?_ | refine Owe.mk ?_ ?_) | (refine Fork.same ?_; (first | refine fkD ?_ ?_ | refine fkN ?_ ?_ | refine fkM ?_ ?_) <;> intro h) | refine MvQ.stay ?_)
  refine Sat.lp0 (fun k : Nat => [(8, vi .i64 k), (7, vi .i64 l.length), (0, .c (ints l)), (1, vi .i64 n)]) (fun k => k ≤ l.length ∧ idxE n 0 l = idxE n k (l.drop k)) (fun k => l.length - k) 0 ⟨Nat.zero_le _, rfl⟩ (by ((first | refine qen ?_ | refine qvs ?_ | refine qeq ?_ | refine qst ?_ | refine qv ?_ | refine qc ?_ | refine qe ?_ | refine qcs ?_ | skip); (repeat' first | exact rfl | (refine qS ?_; constructor)))) ?_
  intro k hk
  (repeat' first | (refine Owe.same ?_; first | refine Owe.o ?_ | refine Owe.mk ?_ ?_) | (refine Fork.same ?_; (first | refine fkD ?_ ?_ | refine fkN ?_ ?_ | refine fkM ?_ ?_) <;> intro h) | refine MvQ.stay ?_)
  · have e := idxE_drop n l k (by omega)
    have h : n = l.getD k 0 := h
    rw [if_pos h, ← hk.2] at e
    (refine rqK rfl ?_; (repeat' first | exact rfl | (refine qS ?_; constructor))); rw [e]
  · have e := idxE_drop n l k (by omega)
    have h : ¬ n = l.getD k 0 := h
    rw [if_neg h, ← hk.2] at e
    exact again0 (k + 1) ⟨by omega, e⟩ (by omega) (by ((first | refine qen ?_ | refine qvs ?_ | refine qeq ?_ | refine qst ?_ | refine qv ?_ | refine qc ?_ | refine qe ?_ | refine qcs ?_ | skip); (repeat' first | exact rfl | (refine qS ?_; constructor))))
  · have e : idxE n 0 l = -1 := by rw [hk.2, List.drop_of_length_le (by omega)]; rfl
    (refine rqK rfl ?_; (repeat' first | exact rfl | (refine qS ?_; constructor))); rw [e]
theorem C132 {l : List Int} {n : Int} : l.length ≤ 1000000 → PFD Tryz.prog 132 [.c (ints l), vi .i64 n] (vbl (decide (n ∈ l))) := fun hl => by
  refine pi1 fn132 ?_
  (repeat' first | (refine Owe.same ?_; first | refine Owe.o ?_ | refine Owe.mk ?_ ?_) | (refine Fork.same ?_; (first | refine fkD ?_ ?_ | refine fkN ?_ ?_ | refine fkM ?_ ?_) <;> intro h) | ((first | refine OpsL.same ?_ | refine OpsDL.same ?_); first | refine pK (C160 hl) rfl rfl ?_) | refine MvQ.stay ?_)
  (refine rqK rfl ?_; (repeat' first | exact rfl | (refine qS ?_; constructor)))
  exact decide_eq_decide.2 (idxE_ge n l 0 (Int.le_refl _))
end Go.Pw

set_option linter.unusedVariables false
set_option maxHeartbeats 2000000
set_option maxRecDepth 100000
namespace Go.Pw
open Go Go.Proofs
/-- moonpool/sonar.said -/
def lc156u : LCode :=
  (.seq (.region [⟨some 2, .box (.tmp 0), none⟩, ⟨some 3, .box (.tmp 1), none⟩, ⟨some 4, .mv (.const .nilFunc), none⟩]) (.seq (.region [⟨some 5, .mkfn 176 [(.tmp 2), (.tmp 3)],
    none⟩, ⟨some 4, .mv (.tmp 5), none⟩]) .ret))
theorem low156u : lowF Tryz.prog [] Tryz.f156 = some (6, lc156u.strip, [.tmp 4]) := by kernel_rfl
theorem fn156u : FnOk Tryz.prog 156 6 lc156u [.tmp 4] := ⟨Tryz.call156, [], _, Tryz.func156, low156u⟩
end Go.Pw

set_option linter.unusedSimpArgs false
set_option linter.unusedVariables false
namespace Go.Pw
set_option maxRecDepth 2000
open Go Go.Proofs A1 A2 A3 A4
/-- Both bits, as the program has them. -/
def orI (a b : Int) : Int := IntKind.i64.wrap ((BitVec.ofInt IntKind.i64.bits a ||| BitVec.ofInt IntKind.i64.bits b).toNat : Nat)
def stC (r : Ry) (c : Cel) : Int := if c = r.2.1 ∧ r.2.2 = true then 2 else 1
def cellN (w : Int) (c : Cel) : Nat := (c.2 * w + c.1).toNat
def updS (w : Int) (r : Ry) (out : List Int) (c : Cel) : List Int := out.set (cellN w c) (orI (out.getD (cellN w c) 0) (stC r c))
def stR (w : Int) (r : Ry) (out : List Int) : List Int := (crS r).foldl (updS w r) out
/-- The states after so many rays. -/
def stK (s : Sc) (wo : List Int) : Nat → List Int
  | 0 => List.replicate (s.1 * s.2.1).toNat 0
  | k + 1 => if (k : Int) ∈ wo then stK s wo k else stR s.1 (s.2.2.getD k ryd) (stK s wo k)
def stS (s : Sc) (wo : List Int) : List Int := stK s wo s.2.2.length
structure ScOk (s : Sc) : Prop where
  w : 1 ≤ s.1 ∧ s.1 ≤ 12
  h : 1 ≤ s.2.1 ∧ s.2.1 ≤ 12
  n : s.2.2.length ≤ 10
  r : ∀ i, i < s.2.2.length → ryOk (s.2.2.getD i ryd) s.1 s.2.1
/-- The states when so many cells of a ray are seen to. -/
def stJ (w : Int) (r : Ry) (out : List Int) (j : Nat) : List Int := ((crS r).take j).foldl (updS w r) out
theorem stJ_succ {w : Int} {r : Ry} {out : List Int} {j : Nat} (h : j < (crS r).length) : stJ w r out (j + 1) = updS w r (stJ w r out j) ((crS r).getD j (0, 0)) := by
  rw [stJ, stJ, List.take_add_one, List.foldl_append, List.getElem?_eq_getElem h, List.getD_eq_getElem?_getD, List.getElem?_eq_getElem h]; rfl
theorem stJ_all {w : Int} {r : Ry} {out : List Int} : stJ w r out (crS r).length = stR w r out := by rw [stJ, List.take_length]; rfl
theorem foldU_len {w : Int} {r : Ry} : ∀ (l : List Cel) (out : List Int), (l.foldl (updS w r) out).length = out.length
  | [], _ => rfl
  | c :: l, out => by rw [List.foldl_cons, foldU_len l]; simp [updS]
theorem stK_len {s : Sc} {wo : List Int} : ∀ k, (stK s wo k).length = (s.1 * s.2.1).toNat
  | 0 => by simp [stK]
  | k + 1 => by
    rw [stK]; split
    · exact stK_len k
    · rw [stR, foldU_len]; exact stK_len k
theorem crS_in {r : Ry} {w g : Int} (hO : ryOk r w g) {c : Cel} (hc : c ∈ crS r) : inG c w g := by
  obtain ⟨_, hx, hy⟩ := crS_mem.1 hc
  obtain ⟨h1, h2⟩ := hO
  simp only [inG, Ry.x0, Ry.y0, Ry.wn, Ry.hn, Ry.dx, Ry.dy, sz] at *
  omega
theorem stC_2 {r : Ry} {c : Cel} (h : (decide (c.1 = r.2.1.1) && decide (c.2 = r.2.1.2)) = true) (h2 : r.2.2 = true) : stC r c = 2 := by
  simp only [Bool.and_eq_true, decide_eq_true_eq] at h
  rw [stC, if_pos ⟨Prod.ext h.1 h.2, h2⟩]
theorem stC_1a {r : Ry} {c : Cel} (h : (decide (c.1 = r.2.1.1) && decide (c.2 = r.2.1.2)) = false) : stC r c = 1 := by
  rw [stC, if_neg]
  rintro ⟨rfl, _⟩
  simp at h
theorem stC_1b {r : Ry} {c : Cel} (h : r.2.2 = false) : stC r c = 1 := by
  rw [stC, if_neg]
  rintro ⟨_, h2⟩
  rw [h] at h2; cases h2
theorem cell_bd {c : Cel} {w g : Int} (hc : inG c w g) (hw : 1 ≤ w) : 0 ≤ c.2 * w + c.1 ∧ c.2 * w + c.1 < w * g := by
  simp only [inG] at hc
  have h1 : 0 ≤ c.2 * w := Int.mul_nonneg (by omega) (by omega)
  have h2 : c.2 * w ≤ (g - 1) * w := Int.mul_le_mul_of_nonneg_right (by omega) (by omega)
  rw [Int.sub_mul, Int.one_mul, Int.mul_comm g w] at h2
  omega
theorem C120 {s : Sc} {wo : List Int} : (ScOk s ∧ wo.length ≤ 1000000) → PFD Tryz.prog 120 [scv s, .c (ints wo)] (.c (ints (stS s wo))) := fun ⟨hO, hwo⟩ => by
  obtain ⟨w, g, l⟩ := s
  have hw := hO.w; have hh := hO.h; have hn := hO.n
  simp only at hw hh hn
  obtain ⟨S, hS⟩ : ∃ S, S = stS (w, g, l) wo := ⟨_, rfl⟩
  rw [← hS]
  have mwg : 1 ≤ w * g ∧ w * g ≤ 144 := by
    have h1 : (1 : Int) * 1 ≤ w * g := Int.mul_le_mul hw.1 hh.1 (by decide) (by omega)
    have h2 : w * g ≤ 12 * 12 := Int.mul_le_mul hw.2 hh.2 (by omega) (by decide)
    omega
  refine pi1 fn120 ?_
  (repeat' first | (refine Owe.same ?_; first | refine Owe.o ?_ | refine Owe.mk ?_ ?_) | (refine Fork.same ?_; (first | refine fkD ?_ ?_ | refine fkN ?_ ?_ | refine fkM ?_ ?_) <;> intro h) | refine MvQ.stay ?_)
  refine Sat.lp (fun k : Nat => ⟨[(18, vi .i64 k), (17, vi .i64 l.length), (16, .c (rys l)), (1, .c (ints wo)), (2, .c (.rp (scD (w, g, l)))), (5, .c (.bp 1 0))], [(1, .box [.ms 0 (stK (w, g, l) wo k).length]), (0, rowv 3 1 r1 0 (stK (w, g, l) wo k))], 2⟩)
    (fun k => k ≤ l.length) (fun k => l.length - k) 0 [0, 1] (Nat.zero_le _) ?_ ?_
  · (refine qis ?_ ?_ <;> (repeat' first | exact rfl | (refine qS ?_; constructor)))
    · simp [stK]
    · exact ⟨0, rfl, rfl⟩
  · intro k hk
    refine Fork.dec (fun hlt => ?_) (fun hlt => ?_)
    · have hlt : k < l.length := by omega
      have hr := hO.r k hlt
      simp only at hr
      (repeat' first | (refine Owe.same ?_; first | refine Owe.o ?_ | refine Owe.mk ?_ ?_) | (refine Fork.same ?_; (first | refine fkD ?_ ?_ | refine fkN ?_ ?_ | refine fkM ?_ ?_) <;> intro h) | ((first | refine OpsL.same ?_ | refine OpsDL.same ?_); first | refine pK C132 rfl rfl ?_) | refine MvQ.stay ?_)
      · have e : stK (w, g, l) wo (k + 1) = stK (w, g, l) wo k := by rw [stK, if_pos h]
        refine again (k + 1) [0, 1] hlt (by omega) ?_
        rw [e]
        (refine qis ?_ ?_ <;> (repeat' first | exact rfl | (refine qS ?_; constructor)))
      · have e : stK (w, g, l) wo (k + 1) = stR w (l.getD k ryd) (stK (w, g, l) wo k) := by rw [stK, if_neg h]
        (repeat' first | (refine Owe.same ?_; first | refine Owe.o ?_ | refine Owe.mk ?_ ?_) | (refine Fork.same ?_; (first | refine fkD ?_ ?_ | refine fkN ?_ ?_ | refine fkM ?_ ?_) <;> intro h) | refine MvQ.stay ?_)
        refine Ops.cs rfl rfl (CallS.of fn156u rfl ?_)
        (repeat' first | (refine Owe.same ?_; first | refine Owe.o ?_ | refine Owe.mk ?_ ?_) | (refine Fork.same ?_; (first | refine fkD ?_ ?_ | refine fkN ?_ ?_ | refine fkM ?_ ?_) <;> intro h) | refine MvQ.stay ?_)
        refine Sat.keep [1, 2, 5, 16, 17, 18, 29] ?_
        refine Sat.rf rfl rfl (CallS.of fn176 rfl ?_)
        (repeat' first | (refine Owe.same ?_; first | refine Owe.o ?_ | refine Owe.mk ?_ ?_) | (refine Fork.same ?_; (first | refine fkD ?_ ?_ | refine fkN ?_ ?_ | refine fkM ?_ ?_) <;> intro h) | refine MvQ.stay ?_)
        have hr12 : ryOk (l.getD k ryd) 12 12 := by simp only [ryOk, inG] at hr ⊢; omega
        have c44 := C152 hr12
        have hin : ∀ c ∈ crS (l.getD k ryd), inG c w g := fun c hc => crS_in hr hc
        have hlen := stK_len (s := (w, g, l)) (wo := wo) k
        have hcl : (crS (l.getD k ryd)).length ≤ 12 * 12 := by
          have h1 := wn_le hr12
          have h2 := hn_le hr12
          exact Nat.le_trans crS_len (Nat.mul_le_mul (by omega) (by omega))
        (repeat' first | (refine Owe.same ?_; first | refine Owe.o ?_ | refine Owe.mk ?_ ?_) | (refine Fork.same ?_; (first | refine fkD ?_ ?_ | refine fkN ?_ ?_ | refine fkM ?_ ?_) <;> intro h) | ((first | refine OpsL.same ?_ | refine OpsDL.same ?_); first | refine pK c44 rfl rfl ?_) | refine MvQ.stay ?_)
        refine Sat.lp (fun j : Nat => ⟨[(10, vi .i64 j), (9, vi .i64 (crS (l.getD k ryd)).length), (8, .c (prs (crS (l.getD k ryd)))), (0, .c (.yd 5)), (1, .c (.bp 3 0)), (2, .c (.bp 4 0))],
            [(5, .lp [(1, .c (ints wo)), (2, .c (.rp (scD (w, g, l)))), (5, .c (.bp 1 0)), (16, .c (rys l)), (17, vi .i64 l.length), (18, vi .i64 k), (29, .c (.fn 176 [3, 4]))] .ready none (RR Tryz.prog 42 [30] ra120 rb120)),
              (4, .box [int w]), (3, .box [int (l.getD k ryd).1.1, int (l.getD k ryd).1.2, int (l.getD k ryd).2.1.1, int (l.getD k ryd).2.1.2, .d (.v (.bool (l.getD k ryd).2.2))]),
              (1, .box [.ms 0 (stJ w (l.getD k ryd) (stK (w, g, l) wo k) j).length]), (0, rowv 3 1 r1 0 (stJ w (l.getD k ryd) (stK (w, g, l) wo k) j))], 6⟩)
          (fun j => j ≤ (crS (l.getD k ryd)).length) (fun j => (crS (l.getD k ryd)).length - j) 0 [] (Nat.zero_le _) ?_ ?_
        · (refine qis ?_ ?_ <;> (repeat' first | exact rfl | (refine qS ?_; constructor)))
        · intro j hj
          refine Fork.dec (fun hlt => ?_) (fun hlt => ?_)
          · have hlt : j < (crS (l.getD k ryd)).length := by omega
            have hc : inG ((crS (l.getD k ryd)).getD j (0, 0)) w g := hin _ (getD_mem (0, 0) hlt)
            have mc := cell_bd hc hw.1
            have hjl : ∀ j, (stJ w (l.getD k ryd) (stK (w, g, l) wo k) j).length = (w * g).toNat := fun j => by rw [stJ, foldU_len]; exact hlen
            have hj1 := hjl j
            have hu := stJ_succ (w := w) (out := stK (w, g, l) wo k) hlt
            simp only [inG] at hc
            (repeat' first | (refine Owe.same ?_; first | refine Owe.o ?_ | refine Owe.mk ?_ ?_) | (refine Fork.same ?_; (first | refine fkD ?_ ?_ | refine fkN ?_ ?_ | refine fkM ?_ ?_) <;> intro h) | ((first | refine OpsL.same ?_ | refine OpsDL.same ?_); first | refine pK C154 rfl rfl ?_) | refine MvQ.stay ?_)
            · rename_i h1
              have hst : stC (l.getD k ryd) ((crS (l.getD k ryd)).getD j (0, 0)) = 2 := stC_2 h1 h
              refine Ops.yd rfl rfl rfl rfl rfl ?_
              (repeat' first | (refine Owe.same ?_; first | refine Owe.o ?_ | refine Owe.mk ?_ ?_) | (refine Fork.same ?_; (first | refine fkD ?_ ?_ | refine fkN ?_ ?_ | refine fkM ?_ ?_) <;> intro h) | refine MvQ.stay ?_)
              refine And.intro rfl (Exists.intro _ (And.intro rfl ?_))
              (repeat' first | (refine Owe.same ?_; first | refine Owe.o ?_ | refine Owe.mk ?_ ?_) | (refine Fork.same ?_; (first | refine fkD ?_ ?_ | refine fkN ?_ ?_ | refine fkM ?_ ?_) <;> intro h) | refine MvQ.stay ?_)
              refine Exists.intro _ (Exists.intro _ (Exists.intro _ (And.intro rfl ?_)))
              (repeat' first | (refine Owe.same ?_; first | refine Owe.o ?_ | refine Owe.mk ?_ ?_) | (refine Fork.same ?_; (first | refine fkD ?_ ?_ | refine fkN ?_ ?_ | refine fkM ?_ ?_) <;> intro h) | refine MvQ.stay ?_)
              refine again (j + 1) [] hlt (by omega) ?_
              (refine qis ?_ ?_ <;> (repeat' first | exact rfl | (refine qS ?_; constructor)))
              · rw [hjl, hjl]
              · refine ⟨orI ((stJ w (l.getD k ryd) (stK (w, g, l) wo k) j).getD (cellN w ((crS (l.getD k ryd)).getD j (0, 0))) 0) 2, rfl, ?_⟩
                rw [hu, updS, hst]; rfl
            · have hst : stC (l.getD k ryd) ((crS (l.getD k ryd)).getD j (0, 0)) = 1 := stC_1b h
              refine Ops.yd rfl rfl rfl rfl rfl ?_
              (repeat' first | (refine Owe.same ?_; first | refine Owe.o ?_ | refine Owe.mk ?_ ?_) | (refine Fork.same ?_; (first | refine fkD ?_ ?_ | refine fkN ?_ ?_ | refine fkM ?_ ?_) <;> intro h) | refine MvQ.stay ?_)
              refine And.intro rfl (Exists.intro _ (And.intro rfl ?_))
              (repeat' first | (refine Owe.same ?_; first | refine Owe.o ?_ | refine Owe.mk ?_ ?_) | (refine Fork.same ?_; (first | refine fkD ?_ ?_ | refine fkN ?_ ?_ | refine fkM ?_ ?_) <;> intro h) | refine MvQ.stay ?_)
              refine Exists.intro _ (Exists.intro _ (Exists.intro _ (And.intro rfl ?_)))
              (repeat' first | (refine Owe.same ?_; first | refine Owe.o ?_ | refine Owe.mk ?_ ?_) | (refine Fork.same ?_; (first | refine fkD ?_ ?_ | refine fkN ?_ ?_ | refine fkM ?_ ?_) <;> intro h) | refine MvQ.stay ?_)
              refine again (j + 1) [] hlt (by omega) ?_
              (refine qis ?_ ?_ <;> (repeat' first | exact rfl | (refine qS ?_; constructor)))
              · rw [hjl, hjl]
              · refine ⟨orI ((stJ w (l.getD k ryd) (stK (w, g, l) wo k) j).getD (cellN w ((crS (l.getD k ryd)).getD j (0, 0))) 0) 1, rfl, ?_⟩
                rw [hu, updS, hst]; rfl
            · have hst : stC (l.getD k ryd) ((crS (l.getD k ryd)).getD j (0, 0)) = 1 := stC_1a h
              refine Ops.yd rfl rfl rfl rfl rfl ?_
              (repeat' first | (refine Owe.same ?_; first | refine Owe.o ?_ | refine Owe.mk ?_ ?_) | (refine Fork.same ?_; (first | refine fkD ?_ ?_ | refine fkN ?_ ?_ | refine fkM ?_ ?_) <;> intro h) | refine MvQ.stay ?_)
              refine And.intro rfl (Exists.intro _ (And.intro rfl ?_))
              (repeat' first | (refine Owe.same ?_; first | refine Owe.o ?_ | refine Owe.mk ?_ ?_) | (refine Fork.same ?_; (first | refine fkD ?_ ?_ | refine fkN ?_ ?_ | refine fkM ?_ ?_) <;> intro h) | refine MvQ.stay ?_)
              refine Exists.intro _ (Exists.intro _ (Exists.intro _ (And.intro rfl ?_)))
              (repeat' first | (refine Owe.same ?_; first | refine Owe.o ?_ | refine Owe.mk ?_ ?_) | (refine Fork.same ?_; (first | refine fkD ?_ ?_ | refine fkN ?_ ?_ | refine fkM ?_ ?_) <;> intro h) | refine MvQ.stay ?_)
              refine again (j + 1) [] hlt (by omega) ?_
              (refine qis ?_ ?_ <;> (repeat' first | exact rfl | (refine qS ?_; constructor)))
              · rw [hjl, hjl]
              · refine ⟨orI ((stJ w (l.getD k ryd) (stK (w, g, l) wo k) j).getD (cellN w ((crS (l.getD k ryd)).getD j (0, 0))) 0) 1, rfl, ?_⟩
                rw [hu, updS, hst]; rfl
          · (repeat' first | (refine Owe.same ?_; first | refine Owe.o ?_ | refine Owe.mk ?_ ?_) | (refine Fork.same ?_; (first | refine fkD ?_ ?_ | refine fkN ?_ ?_ | refine fkM ?_ ?_) <;> intro h) | refine MvQ.stay ?_)
            have : j = (crS (l.getD k ryd)).length := by omega
            subst this
            refine again (k + 1) [0, 1] (by omega) (by omega) ?_
            simp only [e, ← stJ_all]
            (refine qis ?_ ?_ <;> (repeat' first | exact rfl | (refine qS ?_; constructor)))
    · (repeat' first | (refine Owe.same ?_; first | refine Owe.o ?_ | refine Owe.mk ?_ ?_) | (refine Fork.same ?_; (first | refine fkD ?_ ?_ | refine fkN ?_ ?_ | refine fkM ?_ ?_) <;> intro h) | refine MvQ.stay ?_)
      have : k = l.length := by omega
      subst this
      have e : S = stK (w, g, l) wo l.length := hS
      subst e
      refine rqF 0 _ rfl rfl rfl ?_; (repeat' first | exact rfl | (refine qS ?_; constructor))
end Go.Pw

set_option linter.unusedSimpArgs false
set_option linter.unusedVariables false
namespace Go.Pw
set_option maxRecDepth 2000
open Go Go.Proofs A1 A2 A3 A4
theorem scE_ok {s : Sc} : (scE s).2 = 0 ↔ gridE s.1 s.2.1 s.2.2.length = 0 ∧ ∀ r ∈ s.2.2, ryOk r s.1 s.2.1 := by
  rw [scE]
  split
  · rename_i h
    rw [eachE_ok]
    constructor
    · intro h1; exact ⟨h, fun r hr => (unl0 (by decide)).1 (h1 r hr)⟩
    · intro h1 r hr; exact (unl0 (by decide)).2 (h1.2 r hr)
  · rename_i h
    constructor
    · intro h1; exact absurd h1 h
    · intro h1; exact absurd h1.1 h
theorem scE_sc {s : Sc} (h : (scE s).2 = 0) : ScOk s := by
  obtain ⟨h1, h2⟩ := scE_ok.1 h
  have := gridE_ok.1 h1
  exact ⟨this.1.1, this.1.2, by omega, fun i hi => h2 _ (getD_mem _ hi)⟩
theorem C57 {s : Sc} : s.2.2.length ≤ 1000000 → PFD Tryz.prog 57 [scv s] (.tup [.c (ints (if (scE s).2 = 0 then stS s [] else [])), vi .i64 (scE s).2]) := fun hl => by
  by_cases h0 : (scE s).2 = 0
  · rw [if_pos h0]
    have hO := scE_sc h0
    have c71 := C120 (s := s) (wo := []) ⟨hO, by simp⟩
    obtain ⟨S, hS⟩ : ∃ S, S = stS s [] := ⟨_, rfl⟩
    rw [← hS] at c71 ⊢
    refine pi2 fn57 ?_
    (repeat' first | (refine Owe.same ?_; first | refine Owe.o ?_ | refine Owe.mk ?_ ?_) | (refine Fork.same ?_; (first | refine fkD ?_ ?_ | refine fkN ?_ ?_ | refine fkM ?_ ?_) <;> intro h) | ((first | refine OpsL.same ?_ | refine OpsDL.same ?_); first | refine pK (C119 hl) rfl rfl ?_ | refine pK c71 rfl rfl ?_) | refine MvQ.stay ?_)
    · exact absurd h0 h
    · (refine rqK rfl ?_; (repeat' first | exact rfl | (refine qS ?_; constructor)))
      exact h0.symm
  · rw [if_neg h0]
    refine pi2 fn57 ?_
    (repeat' first | (refine Owe.same ?_; first | refine Owe.o ?_ | refine Owe.mk ?_ ?_) | (refine Fork.same ?_; (first | refine fkD ?_ ?_ | refine fkN ?_ ?_ | refine fkM ?_ ?_) <;> intro h) | ((first | refine OpsL.same ?_ | refine OpsDL.same ?_); first | refine pK (C119 hl) rfl rfl ?_) | refine MvQ.stay ?_)
    · (refine rqK rfl ?_; (repeat' first | exact rfl | (refine qS ?_; constructor)))
    · exact absurd h h0
def odC (s : Sc) (t : List Int) : Int × Bool := ((t.length : Int), !decide ((3 : Int) ∈ stS s t))
theorem C131 {s : Sc} {t : List Int} : (ScOk s ∧ t.length ≤ 1000000) → PFD Tryz.prog 131 [.c (ints t), .c (.rp (scD s))] (.tup [vi .i64 (odC s t).1, vbl (odC s t).2]) := fun ⟨hO, ht⟩ => by
  have c71 := C120 (s := s) (wo := t) ⟨hO, ht⟩
  have hl : (stS s t).length ≤ 144 := by
    rw [stS, stK_len]
    have h2 : s.1 * s.2.1 ≤ 12 * 12 := Int.mul_le_mul hO.w.2 hO.h.2 (by have := hO.h; omega) (by decide)
    omega
  rw [odC]
  generalize stS s t = S at *
  refine pi2 fn131 ?_
  (repeat' first | (refine Owe.same ?_; first | refine Owe.o ?_ | refine Owe.mk ?_ ?_) | (refine Fork.same ?_; (first | refine fkD ?_ ?_ | refine fkN ?_ ?_ | refine fkM ?_ ?_) <;> intro h) | ((first | refine OpsL.same ?_ | refine OpsDL.same ?_); first | refine pK c71 rfl rfl ?_ | refine pK C132 rfl rfl ?_) | refine MvQ.stay ?_)
  (refine rqK rfl ?_; (repeat' first | exact rfl | (refine qS ?_; constructor)))
theorem C69 {s : Sc} : s.2.2.length ≤ 1000000 → PFD Tryz.prog 69 [scv s] (.tup [.c (ints (if (scE s).2 = 0 then (bestK (odC s) s.2.2.length (2 ^ s.2.2.length)).l else [])), vi .i64 (scE s).2]) := fun hl => by
  by_cases h0 : (scE s).2 = 0
  · rw [if_pos h0]
    have hO := scE_sc h0
    have c68 := C75 (g := 131) (rows := [scD s]) (c := odC s) (n := s.2.2.length) (fun t ht _ => C131 ⟨hO, ht⟩) (by have := hO.n; omega)
    generalize bestK (odC s) s.2.2.length (2 ^ s.2.2.length) = B at *
    refine pi2 fn69 ?_
    (repeat' first | (refine Owe.same ?_; first | refine Owe.o ?_ | refine Owe.mk ?_ ?_) | (refine Fork.same ?_; (first | refine fkD ?_ ?_ | refine fkN ?_ ?_ | refine fkM ?_ ?_) <;> intro h) | ((first | refine OpsL.same ?_ | refine OpsDL.same ?_); first | refine pK (C119 hl) rfl rfl ?_ | refine pK c68 rfl rfl ?_) | refine MvQ.stay ?_)
    · exact absurd h0 h
    · (refine rqK rfl ?_; (repeat' first | exact rfl | (refine qS ?_; constructor)))
      exact h0.symm
  · rw [if_neg h0]
    refine pi2 fn69 ?_
    (repeat' first | (refine Owe.same ?_; first | refine Owe.o ?_ | refine Owe.mk ?_ ?_) | (refine Fork.same ?_; (first | refine fkD ?_ ?_ | refine fkN ?_ ?_ | refine fkM ?_ ?_) <;> intro h) | ((first | refine OpsL.same ?_ | refine OpsDL.same ?_); first | refine pK (C119 hl) rfl rfl ?_) | refine MvQ.stay ?_)
    · (refine rqK rfl ?_; (repeat' first | exact rfl | (refine qS ?_; constructor)))
    · exact absurd h h0
end Go.Pw

set_option linter.unusedSimpArgs false
set_option linter.unusedVariables false
namespace Go.Pw
set_option maxRecDepth 2000
open Go Go.Proofs A1 A2 A3 A4
abbrev Vw := Ry × Int
abbrev vwd : Vw := (ryd, 0)
abbrev r6 (v : Vw) : List D := [dI v.1.1.1, dI v.1.1.2, dI v.1.2.1.1, dI v.1.2.1.2, .v (.bool v.1.2.2), dI v.2]
abbrev vws (l : List Vw) : C := slv 6 r6 vwd l
abbrev Se := Int × Int × List Vw × List Int
abbrev sev (x : Se) : V := .agg [int x.1, int x.2.1, vws x.2.2.1, ints x.2.2.2]
abbrev seb (x : Se) : List C := [int x.1, int x.2.1, vws x.2.2.1, ints x.2.2.2]
/-- The error of a view. -/
def vwE (w h : Int) (v : Vw) : Int := fstE [unl (ryOk v.1 w h) 6, unl (0 ≤ v.2 ∧ v.2 ≤ 1000) 2]
/-- The error of a wanted cell, after another one. -/
def wnE (m last x : Int) : Int := fstE [unl (0 ≤ x ∧ x ≤ m - 1) 6, unl (last < x) 9]
def eachW (m : Int) : Int → Nat → List Int → Int × Int
  | _, _, [] => (0, 0)
  | last, k, x :: l => if wnE m last x = 0 then eachW m x (k + 1) l else ((k : Int), wnE m last x)
theorem eachW_drop (m last : Int) (l : List Int) (k : Nat) (h : k < l.length) : eachW m last k (l.drop k) = if wnE m last (l.getD k 0) = 0 then eachW m (l.getD k 0) (k + 1) (l.drop (k + 1)) else ((k : Int), wnE m last (l.getD k 0)) := by
  have e : l.drop k = l.getD k 0 :: l.drop (k + 1) := by
    rw [List.getD_eq_getElem?_getD, List.getElem?_eq_getElem h]; exact List.drop_eq_getElem_cons h
  rw [e, eachW]
/-- The error of a search, with an index. -/
def seE (x : Se) : Int × Int := if gridE x.1 x.2.1 x.2.2.1.length = 0 then (if (eachE (vwE x.1 x.2.1) 0 x.2.2.1).2 = 0 then eachW (x.1 * x.2.1) (-1) 0 x.2.2.2 else eachE (vwE x.1 x.2.1) 0 x.2.2.1) else (0, gridE x.1 x.2.1 x.2.2.1.length)
theorem vwE_of {w g : Int} {v : Vw} {e : Int} (h : ¬ fstE [unl (ryOk v.1 w g) 6, e] = 0) (he : e = unl (0 ≤ v.2 ∧ v.2 ≤ 1000) 2) : ¬ vwE w g v = 0 := by subst he; exact h
theorem C43 {x : Se} : (x.2.2.1.length ≤ 1000000 ∧ x.2.2.2.length ≤ 1000000) → PFD Tryz.prog 43 [sev x] (.tup [vi .i64 (seE x).1, vi .i64 (seE x).2]) := fun ⟨hl, hm⟩ => by
  obtain ⟨w, g, l, m⟩ := x
  simp only at hl hm
  refine pi2 fn43 ?_
  (repeat' first | (refine Owe.same ?_; first | refine Owe.o ?_ | refine Owe.mk ?_ ?_) | (refine Fork.same ?_; (first | refine fkD ?_ ?_ | refine fkN ?_ ?_ | refine fkM ?_ ?_) <;> intro h) | ((first | refine OpsL.same ?_ | refine OpsDL.same ?_); first | refine pK C106 rfl rfl ?_) | refine MvQ.stay ?_)
  · have h : ¬ gridE w g l.length = 0 := h
    (refine rqK rfl ?_; (repeat' first | exact rfl | (refine qS ?_; constructor))) <;> rw [seE, if_neg h]
  have h : gridE w g l.length = 0 := h
  have hb := gridE_ok.1 h
  have hr : seE (w, g, l, m) = if (eachE (vwE w g) 0 l).2 = 0 then eachW (w * g) (-1) 0 m else eachE (vwE w g) 0 l := by rw [seE, if_pos h]
  rw [hr]
  obtain ⟨E, hE⟩ : ∃ E, E = eachE (vwE w g) 0 l := ⟨_, rfl⟩
  rw [← hE]
  refine Ops.cs rfl rfl (CallS.of fn107 rfl ?_)
  (repeat' first | (refine Owe.same ?_; first | refine Owe.o ?_ | refine Owe.mk ?_ ?_) | (refine Fork.same ?_; (first | refine fkD ?_ ?_ | refine fkN ?_ ?_ | refine fkM ?_ ?_) <;> intro h) | refine MvQ.stay ?_)
  refine Sat.lp (fun k : Nat => ⟨[(11, vi .i64 k), (10, vi .i64 l.length), (9, .c (vws l)), (1, .c (.fn 108 [0]))], [(0, .box (seb (w, g, l, m)))], 1⟩) (fun k => k ≤ l.length ∧ E = eachE (vwE w g) k (l.drop k)) (fun k => l.length - k) 0 [] ⟨Nat.zero_le _, hE⟩ ?_ ?_
  · (refine qis ?_ ?_ <;> (repeat' first | exact rfl | (refine qS ?_; constructor)))
  · intro k hk
    refine Fork.dec (fun hlt => ?_) (fun hlt => ?_)
    · have hlt : k < l.length := by omega
      have e := eachE_drop (vwE w g) vwd l k hlt
      (repeat' first | (refine Owe.same ?_; first | refine Owe.o ?_ | refine Owe.mk ?_ ?_) | (refine Fork.same ?_; (first | refine fkD ?_ ?_ | refine fkN ?_ ?_ | refine fkM ?_ ?_) <;> intro h) | refine MvQ.stay ?_)
      refine Ops.cs rfl rfl (CallS.of fn108 rfl ?_)
      have c43 := C109 (r := (l.getD k vwd).1) (w := w) (g := g) ⟨by omega, by omega⟩
      (repeat' first | (refine Owe.same ?_; first | refine Owe.o ?_ | refine Owe.mk ?_ ?_) | (refine Fork.same ?_; (first | refine fkD ?_ ?_ | refine fkN ?_ ?_ | refine fkM ?_ ?_) <;> intro h) | ((first | refine OpsL.same ?_ | refine OpsDL.same ?_); first | refine pK c43 rfl rfl ?_ | refine pK C84 rfl rfl ?_ | refine pK C85 rfl rfl ?_ | refine pK C71 rfl rfl ?_) | refine MvQ.stay ?_)
      · have h9 := vwE_of h rfl
        have h9 : ¬ vwE w g (l.getD k vwd) = 0 := h9
        rw [if_neg h9, ← hk.2] at e
        have hE2 : ¬ E.2 = 0 := by rw [e]; exact h9
        (refine rqK rfl ?_; (repeat' first | exact rfl | (refine qS ?_; constructor)))
        · rw [if_neg hE2, e]
        · rw [if_neg hE2, e]; rfl
      · rename_i h1
        exact absurd h h1
      · have h9 : vwE w g (l.getD k vwd) = 0 := h
        rw [if_pos h9, ← hk.2] at e
        refine again (k + 1) [] ⟨hlt, e⟩ (by omega) ?_
        (refine qis ?_ ?_ <;> (repeat' first | exact rfl | (refine qS ?_; constructor)))
    · (repeat' first | (refine Owe.same ?_; first | refine Owe.o ?_ | refine Owe.mk ?_ ?_) | (refine Fork.same ?_; (first | refine fkD ?_ ?_ | refine fkN ?_ ?_ | refine fkM ?_ ?_) <;> intro h) | refine MvQ.stay ?_)
      · exact absurd rfl h
      · have : k = l.length := by omega
        subst this
        have e : E = (0, 0) := by rw [hk.2, List.drop_of_length_le (Nat.le_refl _)]; rfl
        rw [e, if_pos rfl]
        (repeat' first | (refine Owe.same ?_; first | refine Owe.o ?_ | refine Owe.mk ?_ ?_) | (refine Fork.same ?_; (first | refine fkD ?_ ?_ | refine fkN ?_ ?_ | refine fkM ?_ ?_) <;> intro h) | refine MvQ.stay ?_)
        obtain ⟨q, hq⟩ : ∃ q, q = eachW (w * g) (-1) 0 m := ⟨_, rfl⟩
        rw [← hq]
        have mwg : 1 ≤ w * g ∧ w * g ≤ 144 := by
          have h1 : (1 : Int) * 1 ≤ w * g := Int.mul_le_mul hb.1.1.1 hb.1.2.1 (by decide) (by omega)
          have h2 : w * g ≤ 12 * 12 := Int.mul_le_mul hb.1.1.2 hb.1.2.2 (by omega) (by decide)
          omega
        refine Ops.cs rfl rfl (CallS.of fn86 rfl ?_)
        (repeat' first | (refine Owe.same ?_; first | refine Owe.o ?_ | refine Owe.mk ?_ ?_) | (refine Fork.same ?_; (first | refine fkD ?_ ?_ | refine fkN ?_ ?_ | refine fkM ?_ ?_) <;> intro h) | refine MvQ.stay ?_)
        refine Sat.lp (fun k : Nat => ⟨[(11, vi .i64 k), (10, vi .i64 m.length), (9, .c (ints m)), (1, .c (.fn 110 [0, 1]))], [(1, .box [int (if k = 0 then -1 else m.getD (k - 1) 0)]), (0, .box (seb (w, g, l, m)))], 2⟩) (fun k => k ≤ m.length ∧ q = eachW (w * g) (if k = 0 then -1 else m.getD (k - 1) 0) k (m.drop k)) (fun k => m.length - k) 0 [] ⟨Nat.zero_le _, hq⟩ ?_ ?_
        · (refine qis ?_ ?_ <;> (repeat' first | exact rfl | (refine qS ?_; constructor)))
        · intro k hk
          refine Fork.dec (fun hlt => ?_) (fun hlt => ?_)
          · have hlt : k < m.length := by omega
            obtain ⟨last, hla⟩ : ∃ x, x = if k = 0 then -1 else m.getD (k - 1) 0 := ⟨_, rfl⟩
            rw [← hla] at hk ⊢
            have e := eachW_drop (w * g) last m k hlt
            (repeat' first | (refine Owe.same ?_; first | refine Owe.o ?_ | refine Owe.mk ?_ ?_) | (refine Fork.same ?_; (first | refine fkD ?_ ?_ | refine fkN ?_ ?_ | refine fkM ?_ ?_) <;> intro h) | refine MvQ.stay ?_)
            refine Ops.cs rfl rfl (CallS.of fn110 rfl ?_)
            (repeat' first | (refine Owe.same ?_; first | refine Owe.o ?_ | refine Owe.mk ?_ ?_) | (refine Fork.same ?_; (first | refine fkD ?_ ?_ | refine fkN ?_ ?_ | refine fkM ?_ ?_) <;> intro h) | ((first | refine OpsL.same ?_ | refine OpsDL.same ?_); first | refine pK C84 rfl rfl ?_ | refine pK C85 rfl rfl ?_ | refine pK C71 rfl rfl ?_) | refine MvQ.stay ?_)
            · have h : ¬ wnE (w * g) last (m.getD k 0) = 0 := h
              rw [if_neg h, ← hk.2] at e
              (refine rqK rfl ?_; (repeat' first | exact rfl | (refine qS ?_; constructor)))
              · rw [e]
              · rw [e]; rfl
            · have h : wnE (w * g) last (m.getD k 0) = 0 := h
              rw [if_pos h, ← hk.2] at e
              refine again (k + 1) [] ⟨hlt, ?_⟩ (by omega) ?_
              · rw [if_neg (by omega)]; exact e
              · (refine qis ?_ ?_ <;> (repeat' first | exact rfl | (refine qS ?_; constructor)))
          · (repeat' first | (refine Owe.same ?_; first | refine Owe.o ?_ | refine Owe.mk ?_ ?_) | (refine Fork.same ?_; (first | refine fkD ?_ ?_ | refine fkN ?_ ?_ | refine fkM ?_ ?_) <;> intro h) | refine MvQ.stay ?_)
            have : k = m.length := by omega
            subst this
            have e : q = (0, 0) := by rw [hk.2, List.drop_of_length_le (Nat.le_refl _)]; rfl
            subst e
            (refine rqK rfl ?_; (repeat' first | exact rfl | (refine qS ?_; constructor)))
end Go.Pw

set_option linter.unusedSimpArgs false
set_option linter.unusedVariables false
namespace Go.Pw
set_option maxRecDepth 2000
open Go Go.Proofs A1 A2 A3 A4
theorem C175 {n : Int} : PFD Tryz.prog 175 [vi .i64 n] (vbl false) := by
  refine pi1 fn175 ?_
  (repeat' first | (refine Owe.same ?_; first | refine Owe.o ?_ | refine Owe.mk ?_ ?_) | (refine Fork.same ?_; (first | refine fkD ?_ ?_ | refine fkN ?_ ?_ | refine fkM ?_ ?_) <;> intro h) | refine MvQ.stay ?_)
  (refine rqK rfl ?_; (repeat' first | exact rfl | (refine qS ?_; constructor)))
  simp
/-- Where a number is, or would be. -/
def bsN (x : Int) (l : List Int) : Nat := (l.takeWhile fun y => decide (y < x)).length
/-- Ascending numbers. -/
abbrev srt (l : List Int) : Prop := ∀ i j, i < j → j < l.length → l.getD i 0 < l.getD j 0
theorem bsN_eq {x : Int} : ∀ {l : List Int} {i : Nat}, i ≤ l.length → (∀ t, t < i → l.getD t 0 < x) → (i < l.length → x ≤ l.getD i 0) → bsN x l = i
  | [], i, h, _, _ => by simp at h; subst h; rfl
  | y :: l, 0, _, _, h => by
    have := h (by simp)
    have : ¬ y < x := by simp at this; omega
    simp [bsN, List.takeWhile_cons, this]
  | y :: l, i + 1, h, h1, h2 => by
    have h3 := h1 0 (by omega)
    have h3 : y < x := by simpa using h3
    have ih := bsN_eq (x := x) (l := l) (i := i) (by simpa using h) (fun t ht => by have := h1 (t + 1) (by omega); simpa using this) (fun hi => by have := h2 (by simpa using hi); simpa using this)
    rw [bsN] at ih
    simp [bsN, List.takeWhile_cons, h3, ih]
theorem half_eq {i j : Nat} (h : i + j < 4611686018427387904) : (IntKind.u64.wrap ((i : Int) + j)).fdiv (2 ^ min (Int.toNat 1) IntKind.u64.bits) = (((i + j) / 2 : Nat) : Int) := by
  have e : (2 : Int) ^ min (Int.toNat 1) IntKind.u64.bits = 2 := by decide
  rw [u64_wrap, e, Int.fdiv_eq_ediv_of_nonneg _ (by decide)]
  omega
theorem C153 {l : List Int} {x : Int} : (l.length ≤ 1000000 ∧ srt l) → PFD Tryz.prog 153 [.c (ints l), vi .i64 x] (.tup [vi .i64 (bsN x l), vbl (decide (bsN x l < l.length ∧ l.getD (bsN x l) 0 = x))]) := fun ⟨hl, hs⟩ => by
  obtain ⟨b, hb⟩ : ∃ b, b = bsN x l := ⟨_, rfl⟩
  rw [← hb]
  refine pi2 fn153 ?_
  (repeat' first | (refine Owe.same ?_; first | refine Owe.o ?_ | refine Owe.mk ?_ ?_) | (refine Fork.same ?_; (first | refine fkD ?_ ?_ | refine fkN ?_ ?_ | refine fkM ?_ ?_) <;> intro h) | refine MvQ.stay ?_)
  refine Sat.lp0 (fun p : Nat × Nat => [(7, vi .i64 p.1), (8, vi .i64 p.2), (6, vi .i64 l.length), (0, .c (ints l)), (1, vi .i64 x)]) (fun p => (p.1 ≤ p.2 ∧ p.2 ≤ l.length) ∧ (∀ t, t < p.1 → l.getD t 0 < x) ∧ ∀ t, p.2 ≤ t → t < l.length → x ≤ l.getD t 0) (fun p => p.2 - p.1) (0, l.length) ⟨⟨Nat.zero_le _, Nat.le_refl _⟩, fun t h => absurd h (by omega), fun t h1 h2 => absurd h1 (by omega)⟩ (by ((first | refine qen ?_ | refine qvs ?_ | refine qeq ?_ | refine qst ?_ | refine qv ?_ | refine qc ?_ | refine qe ?_ | refine qcs ?_ | skip); (repeat' first | exact rfl | (refine qS ?_; constructor)))) ?_
  intro p hp
  obtain ⟨⟨h1, h2⟩, h3, h4⟩ := hp
  have hm := half_eq (i := p.1) (j := p.2) (by omega)
  refine Fork.dec (fun hlt => ?_) (fun hlt => ?_)
  · have hlt : p.1 < p.2 := by omega
    (repeat' first | (refine Owe.same ?_; first | refine Owe.o ?_ | refine Owe.mk ?_ ?_) | (refine Fork.same ?_; (first | refine fkD ?_ ?_ | refine fkN ?_ ?_ | refine fkM ?_ ?_) <;> intro h) | ((first | refine OpsL.same ?_ | refine OpsDL.same ?_); first | refine pK C174 rfl rfl ?_) | refine MvQ.stay ?_)
    · rw [hm] at h ⊢
      have h : l.getD ((p.1 + p.2) / 2) 0 < x := h
      refine again0 ((p.1 + p.2) / 2 + 1, p.2) ⟨by omega, fun t ht => ?_, h4⟩ (by omega) (by ((first | refine qen ?_ | refine qvs ?_ | refine qeq ?_ | refine qst ?_ | refine qv ?_ | refine qc ?_ | refine qe ?_ | refine qcs ?_ | skip); (repeat' first | exact rfl | (refine qS ?_; constructor))))
      rcases Nat.lt_or_eq_of_le (show t ≤ (p.1 + p.2) / 2 by omega) with h5 | h5
      · exact Int.lt_trans (hs t _ h5 (by omega)) h
      · rw [h5]; exact h
    · rw [hm] at h ⊢
      have h : ¬ l.getD ((p.1 + p.2) / 2) 0 < x := h
      (repeat' first | (refine Owe.same ?_; first | refine Owe.o ?_ | refine Owe.mk ?_ ?_) | (refine Fork.same ?_; (first | refine fkD ?_ ?_ | refine fkN ?_ ?_ | refine fkM ?_ ?_) <;> intro h) | refine MvQ.stay ?_)
      refine again0 (p.1, (p.1 + p.2) / 2) ⟨by omega, h3, fun t h5 h6 => ?_⟩ (by simp only; omega) (by ((first | refine qen ?_ | refine qvs ?_ | refine qeq ?_ | refine qst ?_ | refine qv ?_ | refine qc ?_ | refine qe ?_ | refine qcs ?_ | skip); (repeat' first | exact rfl | (refine qS ?_; constructor))))
      rcases Nat.lt_or_eq_of_le h5 with h7 | h7
      · have := hs _ t h7 h6; simp only at this; omega
      · rw [← h7]; simp only; omega
  · have e : p.1 = p.2 := by omega
    have hbe : b = p.1 := hb.trans (bsN_eq (by omega) h3 fun h => h4 _ (by omega) h)
    rw [hbe]
    (repeat' first | (refine Owe.same ?_; first | refine Owe.o ?_ | refine Owe.mk ?_ ?_) | (refine Fork.same ?_; (first | refine fkD ?_ ?_ | refine fkN ?_ ?_ | refine fkM ?_ ?_) <;> intro h) | ((first | refine OpsL.same ?_ | refine OpsDL.same ?_); first | refine pK C175 rfl rfl ?_) | refine MvQ.stay ?_)
    · have h : l.getD p.1 0 = x := h
      rename_i h9
      have h9 : p.1 < l.length := by omega
      (refine rqK rfl ?_; (repeat' first | exact rfl | (refine qS ?_; constructor)))
      rw [decide_eq_true ⟨h9, h⟩]
    · exact absurd h (by decide)
    · rename_i h9 h8
      have h8 : ¬ l.getD p.1 0 = x := h8
      (refine rqK rfl ?_; (repeat' first | exact rfl | (refine qS ?_; constructor)))
      rw [decide_eq_false fun hh => h8 hh.2]
    · have h9 : ¬ p.1 < l.length := by omega
      (refine rqK rfl ?_; (repeat' first | exact rfl | (refine qS ?_; constructor)))
      rw [decide_eq_false fun hh => h9 hh.1]
end Go.Pw

set_option linter.unusedVariables false
set_option maxHeartbeats 2000000
set_option maxRecDepth 100000
namespace Go.Pw
open Go Go.Proofs
/-- moonpool/sonar.CoverOf -/
def lc45u : LCode :=
  (.seq (.region [⟨some 1, .box (.tmp 0), none⟩, ⟨some 2, .mv (.const (.slice none 0 0)), none⟩, ⟨some 3, .mv (.const (.int .i64 0)), none⟩, ⟨some 4, .mv (.const (.int .i64 0)),
    none⟩]) (.seq (.seq (.region [⟨some 12, .load true 4 (.tmp 1), none⟩, ⟨some 13, .call (.func 43) [(.tmp 12)], none⟩, ⟨some 11, .mv (.tmp 13), none⟩, ⟨some 14, .ext (.tmp 11) 0,
    none⟩, ⟨some 15, .ext (.tmp 11) 1, none⟩, ⟨some 5, .mv (.tmp 14), none⟩, ⟨some 6, .mv (.tmp 15), none⟩]) (.seq (.region [⟨some 16, .mv (.tmp 6), none⟩, ⟨some 17, .bin .neq (.tmp
    16) (.const (.int .i64 0)), none⟩]) (.cond (.tmp 17) (.seq (.region [⟨some 18, .mv (.tmp 6), none⟩, ⟨some 2, .mv (.const (.slice none 0 0)), none⟩, ⟨some 3, .mv (.const (.int
    .i64 0)), none⟩, ⟨some 4, .mv (.tmp 18), none⟩]) .ret) .skip))) (.seq (.region [⟨some 19, .load true 4 (.tmp 1), none⟩, ⟨some 20, .call (.func 111) [(.tmp 19)], none⟩, ⟨some 7,
    .alloc [(.slice none 0 0)], none⟩, ⟨none, .store 1 (.tmp 7) (.tmp 20), none⟩]) (.seq (.stop (.region [⟨some 22, .fld 2 (.tmp 1), none⟩, ⟨some 23, .load false 1 (.tmp 22), none⟩,
    ⟨some 24, .len (.tmp 23), none⟩, ⟨some 25, .mkfn 112 [(.tmp 1), (.tmp 7)], none⟩, ⟨some 26, .call (.func 75) [(.tmp 24), (.tmp 25)], none⟩, ⟨some 21, .mv (.tmp 26), none⟩, ⟨some
    27, .ext (.tmp 21) 0, none⟩, ⟨some 28, .ext (.tmp 21) 1, none⟩, ⟨some 29, .ext (.tmp 21) 2, none⟩, ⟨some 8, .mv (.tmp 27), none⟩, ⟨some 9, .mv (.tmp 28), none⟩, ⟨some 10, .mv
    (.tmp 29), none⟩])) (.seq (.region [⟨some 30, .mv (.tmp 8), none⟩, ⟨some 31, .mv (.tmp 9), none⟩, ⟨some 32, .mv (.tmp 10), none⟩, ⟨some 33, .call (.func 85) [(.tmp 32), (.const
    (.int .i64 12))], none⟩, ⟨some 2, .mv (.tmp 30), none⟩, ⟨some 3, .mv (.tmp 31), none⟩, ⟨some 4, .mv (.tmp 33), none⟩]) .ret)))))
theorem low45u : lowF Tryz.prog [] Tryz.f45 = some (34, lc45u.strip, [.tmp 2, .tmp 3, .tmp 4]) := by kernel_rfl
theorem fn45u : FnOk Tryz.prog 45 34 lc45u [.tmp 2, .tmp 3, .tmp 4] := ⟨Tryz.call45, [], _, Tryz.func45, low45u⟩
end Go.Pw
