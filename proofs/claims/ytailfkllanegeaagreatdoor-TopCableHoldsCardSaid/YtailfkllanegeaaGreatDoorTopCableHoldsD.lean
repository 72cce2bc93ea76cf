/- Steps toward the row of this claim: part 4 of 6. Proved as named below, on no condition but those that each theorem states. -/
import Derived.Test.YtailfkllanegeaaGreatDoorTopCableHoldsC
import Derived.Test.YtailfkllanegeaaGreatDoorProg
import Derived.KernelRfl
set_option linter.unusedVariables false
set_option maxHeartbeats 2000000
set_option maxRecDepth 100000
namespace Go.Pw
open Go Go.Proofs
/-- moonpool/cable.words -/
def lc92 : LCode :=
  (.seq (.region [⟨some 2, .mv (.const (.string ⟨#[]⟩)), none⟩]) (.seq (.region [⟨some 3, .mv (.const (.slice none 0 0)), none⟩]) (.seq (.seq (.region [⟨some 6, .mv (.tmp 0), none⟩,
    ⟨some 7, .len (.tmp 6), none⟩, ⟨some 8, .mv (.const (.int .i64 0)), none⟩]) (.block 0 (.loop (.seq (.region [⟨some 9, .bin .lss (.tmp 8) (.tmp 7), none⟩]) (.seq (.cond (.tmp 9)
    .skip (.exit 0)) (.seq (.block 1 (.seq (.region [⟨some 10, .idx 1 (.tmp 6) (.tmp 8), none⟩, ⟨some 11, .load false 1 (.tmp 10), none⟩, ⟨some 5, .mv (.tmp 11), none⟩]) (.region
    [⟨some 12, .mv (.tmp 3), none⟩, ⟨some 13, .mv (.tmp 5), none⟩, ⟨some 14, .call (.func 181) [(.tmp 13)], none⟩, ⟨some 15, .lit false 9 1 [(.tmp 14)], none⟩, ⟨some 16, .append
    true 9 1 16 (.tmp 12) (.tmp 15), none⟩, ⟨some 3, .mv (.tmp 16), none⟩]))) (.region [⟨some 17, .bin .add (.tmp 8) (.const (.int .i64 1)), none⟩, ⟨some 8, .mv (.tmp 17),
    none⟩]))))))) (.seq (.region [⟨some 18, .mv (.tmp 3), none⟩, ⟨some 19, .call (.func 93) [(.tmp 18), (.const (.string ⟨#[32]⟩))], none⟩, ⟨some 2, .mv (.tmp 19), none⟩]) .ret))))
theorem low92 : lowF Tryz.prog [16] Tryz.f92 = some (20, lc92.strip, [.tmp 2]) := by kernel_rfl
theorem fn92 : FnOk Tryz.prog 92 20 lc92 [.tmp 2] := ⟨Tryz.call92, [16], _, Tryz.func92, low92⟩
/-- strings.Split -/
def lc94 : LCode :=
  (.seq (.region [⟨some 4, .mv (.const (.slice none 0 0)), none⟩]) (.seq (.region [⟨some 5, .mv (.tmp 0), none⟩, ⟨some 6, .mv (.tmp 1), none⟩, ⟨some 7, .call (.func 185) [(.tmp 5),
    (.tmp 6), (.const (.int .i64 0)), (.const (.int .i64 (-1)))], none⟩, ⟨some 4, .mv (.tmp 7), none⟩]) .ret))
theorem low94 : lowF Tryz.prog [] Tryz.f94 = some (8, lc94.strip, [.tmp 4]) := by kernel_rfl
theorem fn94 : FnOk Tryz.prog 94 8 lc94 [.tmp 4] := ⟨Tryz.call94, [], _, Tryz.func94, low94⟩
/-- moonpool/cable.fill -/
def lc95 : LCode :=
  (.seq (.region [⟨some 6, .mv (.const (.bool false)), none⟩]) (.seq (.region [⟨some 12, .mv (.tmp 0), none⟩, ⟨some 13, .call (.func 94) [(.tmp 12), (.const (.string ⟨#[32]⟩))],
    none⟩, ⟨some 7, .mv (.tmp 13), none⟩]) (.seq (.seq (.region [⟨some 14, .mv (.tmp 7), none⟩, ⟨some 15, .len (.tmp 14), none⟩, ⟨some 16, .mv (.tmp 2), none⟩, ⟨some 17, .len (.tmp
    16), none⟩, ⟨some 18, .bin .neq (.tmp 15) (.tmp 17), none⟩]) (.cond (.tmp 18) (.seq (.region [⟨some 6, .mv (.const (.bool false)), none⟩]) .ret) .skip)) (.seq (.seq (.region
    [⟨some 19, .mv (.tmp 2), none⟩, ⟨some 20, .len (.tmp 19), none⟩, ⟨some 21, .mv (.const (.int .i64 0)), none⟩]) (.block 0 (.loop (.seq (.region [⟨some 22, .bin .lss (.tmp 21)
    (.tmp 20), none⟩]) (.seq (.cond (.tmp 22) .skip (.exit 0)) (.seq (.block 1 (.seq (.region [⟨some 23, .mv (.tmp 21), none⟩, ⟨some 24, .idx 1 (.tmp 19) (.tmp 21), none⟩, ⟨some 25,
    .load false 1 (.tmp 24), none⟩, ⟨some 8, .mv (.tmp 23), none⟩, ⟨some 9, .mv (.tmp 25), none⟩]) (.seq (.regionD [⟨some 27, .mv (.tmp 7), none⟩, ⟨some 28, .mv (.tmp 8), none⟩,
    ⟨some 29, .idx 1 (.tmp 27) (.tmp 28), none⟩, ⟨some 30, .load false 1 (.tmp 29), none⟩, ⟨some 31, .mv (.tmp 1), none⟩, ⟨some 32, .mv (.tmp 8), none⟩, ⟨some 33, .call (.func 186)
    [(.tmp 31), (.tmp 32)], none⟩, ⟨some 34, .call (.func 98) [(.tmp 30), (.const (.int .i64 5)), (.tmp 33)], none⟩, ⟨some 26, .mv (.tmp 34), none⟩, ⟨some 35, .ext (.tmp 26) 0,
    none⟩, ⟨some 36, .ext (.tmp 26) 1, none⟩, ⟨some 10, .mv (.tmp 35), none⟩, ⟨some 11, .mv (.tmp 36), none⟩] [0, 0, 3, 7, 0, 0, 48, 127, 255, 511, 511, 1023, 4095] [0, 1, 2, 3, 4,
    5, 6, 7, 8, 9, 10, 11, 12]) (.seq (.seq (.region [⟨some 37, .mv (.tmp 11), none⟩, ⟨some 38, .un .not (.tmp 37), none⟩]) (.cond (.tmp 38) (.seq (.region [⟨some 6, .mv (.const
    (.bool false)), none⟩]) .ret) .skip)) (.region [⟨some 39, .mv (.tmp 9), none⟩, ⟨some 40, .mv (.tmp 10), none⟩, ⟨some 41, .nilc (.tmp 39), none⟩, ⟨none, .store 1 (.tmp 41) (.tmp
    40), none⟩]))))) (.region [⟨some 42, .bin .add (.tmp 21) (.const (.int .i64 1)), none⟩, ⟨some 21, .mv (.tmp 42), none⟩]))))))) (.seq (.region [⟨some 6, .mv (.const (.bool
    true)), none⟩]) .ret)))))
theorem low95 : lowF Tryz.prog [] Tryz.f95 = some (43, lc95.strip, [.tmp 6]) := by kernel_rfl
theorem fn95 : FnOk Tryz.prog 95 43 lc95 [.tmp 6] := ⟨Tryz.call95, [], _, Tryz.func95, low95⟩
/-- moonpool/cable.CheckLine -/
def lc96 : LCode :=
  (.seq (.region [⟨some 1, .box (.tmp 0), none⟩, ⟨some 2, .mv (.const (.int .i64 0)), none⟩, ⟨some 3, .mv (.const (.int .i64 0)), none⟩]) (.seq (.regionD [⟨some 5, .fld 0 (.tmp 1),
    none⟩, ⟨some 6, .fld 0 (.tmp 5), none⟩, ⟨some 7, .load false 1 (.tmp 6), none⟩, ⟨some 8, .call (.func 187) [(.tmp 7), (.const (.int .i64 10000))], none⟩, ⟨some 9, .mv (.tmp 8),
    none⟩, ⟨some 10, .fld 0 (.tmp 1), some (9, true)⟩, ⟨some 11, .fld 1 (.tmp 10), some (9, true)⟩, ⟨some 12, .load false 1 (.tmp 11), some (9, true)⟩, ⟨some 13, .call (.func 187)
    [(.tmp 12), (.const (.int .i64 10000))], some (9, true)⟩, ⟨some 14, .pick (.tmp 9) (.tmp 13) (.const (.bool false)), none⟩, ⟨some 15, .call (.func 125) [(.tmp 14), (.const (.int
    .i64 2))], none⟩, ⟨some 16, .fld 2 (.tmp 1), none⟩, ⟨some 17, .load false 1 (.tmp 16), none⟩, ⟨some 18, .len (.tmp 17), none⟩, ⟨some 19, .bin .gtr (.tmp 18) (.const (.int .i64
    0)), none⟩, ⟨some 20, .call (.func 125) [(.tmp 19), (.const (.int .i64 10))], none⟩, ⟨some 21, .fld 2 (.tmp 1), none⟩, ⟨some 22, .load false 1 (.tmp 21), none⟩, ⟨some 23, .len
    (.tmp 22), none⟩, ⟨some 24, .bin .leq (.tmp 23) (.const (.int .i64 10)), none⟩, ⟨some 25, .call (.func 125) [(.tmp 24), (.const (.int .i64 8))], none⟩, ⟨some 26, .lit false 34 1
    [(.tmp 15), (.tmp 20), (.tmp 25)], none⟩, ⟨some 27, .call (.func 124) [(.tmp 26)], none⟩, ⟨some 4, .mv (.tmp 27), none⟩] [0, 1, 3, 7, 15, 31, 63, 127, 255, 511, 1023, 0, 2048,
    6144, 14336, 32767, 0, 65536, 196608, 458752, 1048575, 2097151, 4194303, 8388607] [0, 1, 2, 3, 4, 5, 6, 7, 8, 9, 10, 11, 12, 13, 14, 15, 16, 17, 18, 19, 20, 21, 22, 23]) (.seq
    (.seq (.region [⟨some 28, .mv (.tmp 4), none⟩, ⟨some 29, .bin .neq (.tmp 28) (.const (.int .i64 0)), none⟩]) (.cond (.tmp 29) (.seq (.region [⟨some 30, .mv (.tmp 4), none⟩,
    ⟨some 2, .mv (.const (.int .i64 0)), none⟩, ⟨some 3, .mv (.tmp 30), none⟩]) .ret) .skip)) (.seq (.region [⟨some 31, .fld 2 (.tmp 1), none⟩, ⟨some 32, .load false 1 (.tmp 31),
    none⟩, ⟨some 33, .call (.func 188) [(.tmp 32), (.func 189)], none⟩, ⟨some 34, .ext (.tmp 33) 0, none⟩, ⟨some 35, .ext (.tmp 33) 1, none⟩, ⟨some 2, .mv (.tmp 34), none⟩, ⟨some 3,
    .mv (.tmp 35), none⟩]) .ret))))
theorem low96 : lowF Tryz.prog [] Tryz.f96 = some (36, lc96.strip, [.tmp 2, .tmp 3]) := by kernel_rfl
theorem fn96 : FnOk Tryz.prog 96 36 lc96 [.tmp 2, .tmp 3] := ⟨Tryz.call96, [], _, Tryz.func96, low96⟩
/-- moonpool/cable.number -/
def lc98 : LCode :=
  (.seq (.region [⟨some 6, .mv (.const (.int .i64 0)), none⟩, ⟨some 7, .mv (.const (.bool false)), none⟩]) (.seq (.region [⟨some 11, .mv (.tmp 0), none⟩, ⟨some 12, .call (.func 191)
    [(.tmp 11)], none⟩, ⟨some 10, .mv (.tmp 12), none⟩, ⟨some 13, .ext (.tmp 10) 0, none⟩, ⟨some 14, .ext (.tmp 10) 1, none⟩, ⟨some 8, .mv (.tmp 13), none⟩, ⟨some 9, .mv (.tmp 14),
    none⟩]) (.seq (.region [⟨some 15, .mv (.tmp 8), none⟩, ⟨some 16, .mv (.tmp 9), none⟩, ⟨some 17, .nilI false (.tmp 16) (.const .nilIface), none⟩, ⟨some 18, .mv (.tmp 17), none⟩,
    ⟨some 19, .mv (.tmp 8), some (18, true)⟩, ⟨some 20, .call (.func 181) [(.tmp 19)], some (18, true)⟩, ⟨some 21, .mv (.tmp 0), some (18, true)⟩, ⟨some 22, .eqS false (.tmp 20)
    (.tmp 21), some (18, true)⟩, ⟨some 23, .pick (.tmp 18) (.tmp 22) (.const (.bool false)), none⟩, ⟨some 24, .mv (.tmp 23), none⟩, ⟨some 25, .mv (.tmp 2), some (24, true)⟩, ⟨some
    26, .mv (.tmp 25), some (24, true)⟩, ⟨some 27, .mv (.tmp 8), some (26, false)⟩, ⟨some 28, .bin .geq (.tmp 27) (.const (.int .i64 0)), some (26, false)⟩, ⟨some 29, .pick (.tmp
    26) (.const (.bool true)) (.tmp 28), some (24, true)⟩, ⟨some 30, .pick (.tmp 24) (.tmp 29) (.const (.bool false)), none⟩, ⟨some 31, .mv (.tmp 30), none⟩, ⟨some 32, .mv (.tmp 0),
    some (31, true)⟩, ⟨some 33, .call (.func 192) [(.tmp 32), (.const (.string ⟨#[45]⟩))], some (31, true)⟩, ⟨some 34, .lenS (.tmp 33), some (31, true)⟩, ⟨some 35, .mv (.tmp 1),
    some (31, true)⟩, ⟨some 36, .bin .leq (.tmp 34) (.tmp 35), some (31, true)⟩, ⟨some 37, .pick (.tmp 31) (.tmp 36) (.const (.bool false)), none⟩, ⟨some 6, .mv (.tmp 15), none⟩,
    ⟨some 7, .mv (.tmp 37), none⟩]) .ret)))
theorem low98 : lowF Tryz.prog [] Tryz.f98 = some (38, lc98.strip, [.tmp 6, .tmp 7]) := by kernel_rfl
theorem fn98 : FnOk Tryz.prog 98 38 lc98 [.tmp 6, .tmp 7] := ⟨Tryz.call98, [], _, Tryz.func98, low98⟩
/-- slices.ContainsFunc[[]moonpool/api.Range,moonpool/api.Range] -/
def lc99 : LCode :=
  (.seq (.region [⟨some 4, .mv (.const (.bool false)), none⟩]) (.seq (.region [⟨some 5, .mv (.tmp 0), none⟩, ⟨some 6, .mv (.tmp 1), none⟩, ⟨some 7, .call (.func 193) [(.tmp 5),
    (.tmp 6)], none⟩, ⟨some 8, .bin .geq (.tmp 7) (.const (.int .i64 0)), none⟩, ⟨some 4, .mv (.tmp 8), none⟩]) .ret))
theorem low99 : lowF Tryz.prog [] Tryz.f99 = some (9, lc99.strip, [.tmp 4]) := by kernel_rfl
theorem fn99 : FnOk Tryz.prog 99 9 lc99 [.tmp 4] := ⟨Tryz.call99, [], _, Tryz.func99, low99⟩
/-- moonpool/cable.ParseBox$1 -/
def lc100 : LCode :=
  (.seq (.region [⟨some 1, .boxS (.tmp 0), none⟩, ⟨some 2, .mv (.const (.bool false)), none⟩]) (.seq (.region [⟨some 3, .fld 0 (.tmp 1), none⟩, ⟨some 4, .load false 1 (.tmp 3),
    none⟩, ⟨some 5, .fld 1 (.tmp 1), none⟩, ⟨some 6, .load false 1 (.tmp 5), none⟩, ⟨some 7, .bin .gtr (.tmp 4) (.tmp 6), none⟩, ⟨some 2, .mv (.tmp 7), none⟩]) .ret))
theorem low100 : lowF Tryz.prog [1] Tryz.f100 = some (8, lc100.strip, [.tmp 2]) := by kernel_rfl
theorem fn100 : FnOk Tryz.prog 100 8 lc100 [.tmp 2] := ⟨Tryz.call100, [1], _, Tryz.func100, low100⟩
/-- moonpool/moonpoolref01.CheckLine -/
def lc104 : LCode :=
  (.seq (.region [⟨some 1, .box (.tmp 0), none⟩, ⟨some 2, .mv (.const (.int .i64 0)), none⟩, ⟨some 3, .mv (.const (.int .i64 0)), none⟩]) (.seq (.region [⟨some 4, .mv (.const (.int
    .i64 10000)), none⟩]) (.seq (.seq (.region [⟨some 7, .fld 0 (.tmp 1), none⟩, ⟨some 8, .fld 0 (.tmp 7), none⟩, ⟨some 9, .load false 1 (.tmp 8), none⟩, ⟨some 10, .mv (.tmp 4),
    none⟩, ⟨some 11, .un .neg (.tmp 10), none⟩, ⟨some 12, .mv (.tmp 4), none⟩, ⟨some 13, .call (.func 46) [(.tmp 9), (.tmp 11), (.tmp 12)], none⟩, ⟨some 14, .un .not (.tmp 13),
    none⟩, ⟨some 15, .mv (.tmp 14), none⟩, ⟨some 16, .fld 0 (.tmp 1), some (15, false)⟩, ⟨some 17, .fld 1 (.tmp 16), some (15, false)⟩, ⟨some 18, .load false 1 (.tmp 17), some (15,
    false)⟩, ⟨some 19, .mv (.tmp 4), some (15, false)⟩, ⟨some 20, .un .neg (.tmp 19), some (15, false)⟩, ⟨some 21, .mv (.tmp 4), some (15, false)⟩, ⟨some 22, .call (.func 46) [(.tmp
    18), (.tmp 20), (.tmp 21)], some (15, false)⟩, ⟨some 23, .un .not (.tmp 22), some (15, false)⟩, ⟨some 24, .pick (.tmp 15) (.const (.bool true)) (.tmp 23), none⟩]) (.cond (.tmp
    24) (.seq (.region [⟨some 2, .mv (.const (.int .i64 0)), none⟩, ⟨some 3, .mv (.const (.int .i64 2)), none⟩]) .ret) .skip)) (.seq (.seq (.region [⟨some 25, .fld 2 (.tmp 1),
    none⟩, ⟨some 26, .load false 1 (.tmp 25), none⟩, ⟨some 27, .len (.tmp 26), none⟩, ⟨some 28, .bin .eql (.tmp 27) (.const (.int .i64 0)), none⟩]) (.cond (.tmp 28) (.seq (.region
    [⟨some 2, .mv (.const (.int .i64 0)), none⟩, ⟨some 3, .mv (.const (.int .i64 10)), none⟩]) .ret) .skip)) (.seq (.seq (.region [⟨some 29, .fld 2 (.tmp 1), none⟩, ⟨some 30, .load
    false 1 (.tmp 29), none⟩, ⟨some 31, .len (.tmp 30), none⟩, ⟨some 32, .bin .gtr (.tmp 31) (.const (.int .i64 10)), none⟩]) (.cond (.tmp 32) (.seq (.region [⟨some 2, .mv (.const
    (.int .i64 0)), none⟩, ⟨some 3, .mv (.const (.int .i64 8)), none⟩]) .ret) .skip)) (.seq (.seq (.region [⟨some 5, .mv (.const (.int .i64 0)), none⟩]) (.block 0 (.loop (.seq (.seq
    (.region [⟨some 33, .mv (.tmp 5), none⟩, ⟨some 34, .fld 2 (.tmp 1), none⟩, ⟨some 35, .load false 1 (.tmp 34), none⟩, ⟨some 36, .len (.tmp 35), none⟩, ⟨some 37, .bin .lss (.tmp
    33) (.tmp 36), none⟩]) (.cond (.tmp 37) .skip (.exit 0))) (.seq (.block 1 (.seq (.region [⟨some 40, .fld 2 (.tmp 1), none⟩, ⟨some 41, .load false 1 (.tmp 40), none⟩, ⟨some 42,
    .mv (.tmp 5), none⟩, ⟨some 43, .idx 3 (.tmp 41) (.tmp 42), none⟩, ⟨some 44, .load true 3 (.tmp 43), none⟩, ⟨some 6, .alloc [(.int .i64 0), (.int .i64 0), (.int .i64 0)], none⟩,
    ⟨none, .store 3 (.tmp 6) (.tmp 44), none⟩]) (.seq (.region [⟨some 45, .fld 0 (.tmp 6), none⟩, ⟨some 46, .load false 1 (.tmp 45), none⟩, ⟨some 47, .call (.func 46) [(.tmp 46),
    (.const (.int .i64 1)), (.const (.int .i64 1000))], none⟩, ⟨some 48, .un .not (.tmp 47), none⟩, ⟨some 49, .mv (.tmp 48), none⟩, ⟨some 50, .fld 1 (.tmp 6), some (49, false)⟩,
    ⟨some 51, .load false 1 (.tmp 50), some (49, false)⟩, ⟨some 52, .call (.func 46) [(.tmp 51), (.const (.int .i64 (-1000))), (.const (.int .i64 1000))], some (49, false)⟩, ⟨some
    53, .un .not (.tmp 52), some (49, false)⟩, ⟨some 54, .pick (.tmp 49) (.const (.bool true)) (.tmp 53), none⟩, ⟨some 55, .mv (.tmp 54), none⟩, ⟨some 56, .fld 2 (.tmp 6), some (55,
    false)⟩, ⟨some 57, .load false 1 (.tmp 56), some (55, false)⟩, ⟨some 58, .call (.func 46) [(.tmp 57), (.const (.int .i64 0)), (.const (.int .i64 20))], some (55, false)⟩, ⟨some
    59, .un .not (.tmp 58), some (55, false)⟩, ⟨some 60, .pick (.tmp 55) (.const (.bool true)) (.tmp 59), none⟩]) (.cond (.tmp 60) (.seq (.region [⟨some 61, .mv (.tmp 5), none⟩,
    ⟨some 2, .mv (.tmp 61), none⟩, ⟨some 3, .mv (.const (.int .i64 2)), none⟩]) .ret) .skip)))) (.region [⟨some 38, .mv (.tmp 5), none⟩, ⟨some 39, .bin .add (.tmp 38) (.const (.int
    .i64 1)), none⟩, ⟨some 5, .mv (.tmp 39), none⟩])))))) (.seq (.region [⟨some 2, .mv (.const (.int .i64 0)), none⟩, ⟨some 3, .mv (.const (.int .i64 0)), none⟩]) .ret)))))))
theorem low104 : lowF Tryz.prog [] Tryz.f104 = some (62, lc104.strip, [.tmp 2, .tmp 3]) := by kernel_rfl
theorem fn104 : FnOk Tryz.prog 104 62 lc104 [.tmp 2, .tmp 3] := ⟨Tryz.call104, [], _, Tryz.func104, low104⟩
/-- moonpool/moonpoolref01.CheckBox -/
def lc105 : LCode :=
  (.seq (.region [⟨some 2, .box (.tmp 0), none⟩, ⟨some 4, .mv (.const (.int .i64 0)), none⟩, ⟨some 5, .mv (.const (.int .i64 0)), none⟩]) (.seq (.seq (.region [⟨some 7, .mv (.tmp
    1), none⟩, ⟨some 8, .len (.tmp 7), none⟩, ⟨some 9, .fld 2 (.tmp 2), none⟩, ⟨some 10, .load false 1 (.tmp 9), none⟩, ⟨some 11, .len (.tmp 10), none⟩, ⟨some 12, .bin .neq (.tmp 8)
    (.tmp 11), none⟩]) (.cond (.tmp 12) (.seq (.region [⟨some 4, .mv (.const (.int .i64 0)), none⟩, ⟨some 5, .mv (.const (.int .i64 10)), none⟩]) .ret) .skip)) (.seq (.seq (.region
    [⟨some 6, .mv (.const (.int .i64 0)), none⟩]) (.block 0 (.loop (.seq (.seq (.region [⟨some 13, .mv (.tmp 6), none⟩, ⟨some 14, .mv (.tmp 1), none⟩, ⟨some 15, .len (.tmp 14),
    none⟩, ⟨some 16, .bin .lss (.tmp 13) (.tmp 15), none⟩]) (.cond (.tmp 16) .skip (.exit 0))) (.seq (.block 1 (.seq (.seq (.region [⟨some 19, .mv (.tmp 1), none⟩, ⟨some 20, .mv
    (.tmp 6), none⟩, ⟨some 21, .idx 2 (.tmp 19) (.tmp 20), none⟩, ⟨some 22, .fld 0 (.tmp 21), none⟩, ⟨some 23, .load false 1 (.tmp 22), none⟩, ⟨some 24, .call (.func 195) [(.tmp
    23)], none⟩, ⟨some 25, .un .not (.tmp 24), none⟩, ⟨some 26, .mv (.tmp 25), none⟩, ⟨some 27, .mv (.tmp 1), some (26, false)⟩, ⟨some 28, .mv (.tmp 6), some (26, false)⟩, ⟨some 29,
    .idx 2 (.tmp 27) (.tmp 28), some (26, false)⟩, ⟨some 30, .fld 1 (.tmp 29), some (26, false)⟩, ⟨some 31, .load false 1 (.tmp 30), some (26, false)⟩, ⟨some 32, .call (.func 195)
    [(.tmp 31)], some (26, false)⟩, ⟨some 33, .un .not (.tmp 32), some (26, false)⟩, ⟨some 34, .pick (.tmp 26) (.const (.bool true)) (.tmp 33), none⟩]) (.cond (.tmp 34) (.seq
    (.region [⟨some 35, .mv (.tmp 6), none⟩, ⟨some 4, .mv (.tmp 35), none⟩, ⟨some 5, .mv (.const (.int .i64 2)), none⟩]) .ret) .skip)) (.seq (.regionD [⟨some 36, .mv (.tmp 1),
    none⟩, ⟨some 37, .mv (.tmp 6), none⟩, ⟨some 38, .idx 2 (.tmp 36) (.tmp 37), none⟩, ⟨some 39, .fld 0 (.tmp 38), none⟩, ⟨some 40, .load false 1 (.tmp 39), none⟩, ⟨some 41, .mv
    (.tmp 1), none⟩, ⟨some 42, .mv (.tmp 6), none⟩, ⟨some 43, .idx 2 (.tmp 41) (.tmp 42), none⟩, ⟨some 44, .fld 1 (.tmp 43), none⟩, ⟨some 45, .load false 1 (.tmp 44), none⟩, ⟨some
    46, .bin .gtr (.tmp 40) (.tmp 45), none⟩] [0, 0, 3, 7, 15, 0, 0, 96, 224, 480, 1023] [0, 1, 2, 3, 4, 5, 6, 7, 8, 9, 10]) (.cond (.tmp 46) (.seq (.region [⟨some 47, .mv (.tmp 6),
    none⟩, ⟨some 4, .mv (.tmp 47), none⟩, ⟨some 5, .mv (.const (.int .i64 9)), none⟩]) .ret) .skip)))) (.region [⟨some 17, .mv (.tmp 6), none⟩, ⟨some 18, .bin .add (.tmp 17) (.const
    (.int .i64 1)), none⟩, ⟨some 6, .mv (.tmp 18), none⟩])))))) (.seq (.region [⟨some 4, .mv (.const (.int .i64 0)), none⟩, ⟨some 5, .mv (.const (.int .i64 0)), none⟩]) .ret))))
theorem low105 : lowF Tryz.prog [] Tryz.f105 = some (48, lc105.strip, [.tmp 4, .tmp 5]) := by kernel_rfl
theorem fn105 : FnOk Tryz.prog 105 48 lc105 [.tmp 4, .tmp 5] := ⟨Tryz.call105, [], _, Tryz.func105, low105⟩
/-- moonpool/cable.openBox -/
def lc120 : LCode :=
  (.seq (.region [⟨some 2, .box (.tmp 0), none⟩, ⟨some 4, .alloc [(.int .i64 0), (.int .i64 0), (.slice none 0 0), (.slice none 0 0)], none⟩, ⟨some 5, .mv (.const (.int .i64 0)),
    none⟩]) (.seq (.region [⟨some 9, .load true 3 (.tmp 2), none⟩, ⟨some 10, .mv (.tmp 1), none⟩, ⟨some 11, .call (.func 207) [(.tmp 9), (.tmp 10)], none⟩, ⟨some 8, .mv (.tmp 11),
    none⟩, ⟨some 12, .ext (.tmp 8) 0, none⟩, ⟨some 13, .ext (.tmp 8) 1, none⟩, ⟨some 6, .mv (.tmp 12), none⟩, ⟨some 7, .mv (.tmp 13), none⟩]) (.seq (.region [⟨some 14, .load true 3
    (.tmp 2), none⟩, ⟨some 15, .mv (.tmp 1), none⟩, ⟨some 16, .build [(.int .i64 0), (.int .i64 0), (.slice none 0 0), (.slice none 0 0)] [(0, 3, (.tmp 14)), (3, 1, (.tmp 15))],
    none⟩, ⟨some 17, .mv (.tmp 7), none⟩, ⟨none, .store 4 (.tmp 4) (.tmp 16), none⟩, ⟨some 5, .mv (.tmp 17), none⟩]) .ret)))
theorem low120 : lowF Tryz.prog [] Tryz.f120 = some (18, lc120.strip, [.cell 4 true 4, .tmp 5]) := by kernel_rfl
theorem fn120 : FnOk Tryz.prog 120 18 lc120 [.cell 4 true 4, .tmp 5] := ⟨Tryz.call120, [], _, Tryz.func120, low120⟩
/-- (moonpool/cable.line).pulls -/
def lc121 : LCode :=
  (.seq (.region [⟨some 1, .box (.tmp 0), none⟩, ⟨some 2, .mv (.const .nilFunc), none⟩]) (.seq (.region [⟨some 3, .mkfn 208 [(.tmp 1)], none⟩, ⟨some 2, .mv (.tmp 3), none⟩]) .ret))
theorem low121 : lowF Tryz.prog [] Tryz.f121 = some (4, lc121.strip, [.tmp 2]) := by kernel_rfl
theorem fn121 : FnOk Tryz.prog 121 4 lc121 [.tmp 2] := ⟨Tryz.call121, [], _, Tryz.func121, low121⟩
/-- moonpool/moonpoolbase.Root -/
def lc122 : LCode :=
  (.seq (.region [⟨some 2, .mv (.const (.int .i64 0)), none⟩]) (.seq (.region [⟨some 3, .mv (.const (.int .i64 0)), none⟩, ⟨some 4, .mv (.const (.int .i64 1073741824)), none⟩])
    (.seq (.block 0 (.loop (.seq (.seq (.region [⟨some 5, .mv (.tmp 4), none⟩, ⟨some 6, .bin .gtr (.tmp 5) (.const (.int .i64 0)), none⟩]) (.cond (.tmp 6) .skip (.exit 0))) (.block
    1 (.seq (.seq (.region [⟨some 7, .mv (.tmp 3), none⟩, ⟨some 8, .mv (.tmp 4), none⟩, ⟨some 9, .bin .add (.tmp 7) (.tmp 8), none⟩, ⟨some 10, .mv (.tmp 3), none⟩, ⟨some 11, .mv
    (.tmp 4), none⟩, ⟨some 12, .bin .add (.tmp 10) (.tmp 11), none⟩, ⟨some 13, .bin .mul (.tmp 9) (.tmp 12), none⟩, ⟨some 14, .mv (.tmp 0), none⟩, ⟨some 15, .bin .leq (.tmp 13)
    (.tmp 14), none⟩]) (.cond (.tmp 15) (.region [⟨some 16, .mv (.tmp 3), none⟩, ⟨some 17, .mv (.tmp 4), none⟩, ⟨some 18, .bin .add (.tmp 16) (.tmp 17), none⟩, ⟨some 3, .mv (.tmp
    18), none⟩]) .skip)) (.region [⟨some 19, .mv (.tmp 4), none⟩, ⟨some 20, .bin .quo (.tmp 19) (.const (.int .i64 2)), none⟩, ⟨some 4, .mv (.tmp 20), none⟩])))))) (.seq (.region
    [⟨some 21, .mv (.tmp 3), none⟩, ⟨some 2, .mv (.tmp 21), none⟩]) .ret))))
theorem low122 : lowF Tryz.prog [] Tryz.f122 = some (22, lc122.strip, [.tmp 2]) := by kernel_rfl
theorem fn122 : FnOk Tryz.prog 122 22 lc122 [.tmp 2] := ⟨Tryz.call122, [], _, Tryz.func122, low122⟩
/-- moonpool/cable.open -/
def lc123 : LCode :=
  (.seq (.region [⟨some 2, .box (.tmp 0), none⟩, ⟨some 4, .alloc [(.int .i64 0), (.int .i64 0), (.slice none 0 0), (.slice none 0 0)], none⟩, ⟨some 5, .mv (.const (.int .i64 0)),
    none⟩]) (.seq (.region [⟨some 12, .load true 3 (.tmp 2), none⟩, ⟨some 13, .call (.func 96) [(.tmp 12)], none⟩, ⟨some 11, .mv (.tmp 13), none⟩, ⟨some 14, .ext (.tmp 11) 0, none⟩,
    ⟨some 15, .ext (.tmp 11) 1, none⟩, ⟨some 6, .mv (.tmp 14), none⟩, ⟨some 7, .mv (.tmp 15), none⟩]) (.seq (.seq (.region [⟨some 16, .mv (.tmp 7), none⟩, ⟨some 17, .mv (.tmp 1),
    none⟩, ⟨some 18, .len (.tmp 17), none⟩, ⟨some 19, .fld 2 (.tmp 2), none⟩, ⟨some 20, .load false 1 (.tmp 19), none⟩, ⟨some 21, .len (.tmp 20), none⟩, ⟨some 22, .bin .eql (.tmp
    18) (.tmp 21), none⟩, ⟨some 23, .call (.func 125) [(.tmp 22), (.const (.int .i64 10))], none⟩, ⟨some 24, .lit false 34 1 [(.tmp 16), (.tmp 23)], none⟩, ⟨some 25, .call (.func
    124) [(.tmp 24)], none⟩, ⟨some 7, .mv (.tmp 25), none⟩]) (.seq (.region [⟨some 26, .mv (.tmp 7), none⟩, ⟨some 27, .bin .neq (.tmp 26) (.const (.int .i64 0)), none⟩]) (.cond
    (.tmp 27) (.seq (.region [⟨some 28, .build [(.int .i64 0), (.int .i64 0), (.slice none 0 0), (.slice none 0 0)] [], none⟩, ⟨some 29, .mv (.tmp 7), none⟩, ⟨none, .store 4 (.tmp
    4) (.tmp 28), none⟩, ⟨some 5, .mv (.tmp 29), none⟩]) .ret) .skip))) (.seq (.region [⟨some 31, .mv (.tmp 1), none⟩, ⟨some 32, .call (.func 126) [(.tmp 31), (.func 209)], none⟩,
    ⟨some 30, .mv (.tmp 32), none⟩, ⟨some 33, .ext (.tmp 30) 0, none⟩, ⟨some 34, .ext (.tmp 30) 1, none⟩, ⟨some 7, .mv (.tmp 34), none⟩]) (.seq (.region [⟨some 35, .load true 3
    (.tmp 2), none⟩, ⟨some 36, .build [(.int .i64 0), (.int .i64 0), (.slice none 0 0), (.slice none 0 0)] [(0, 3, (.tmp 35))], none⟩, ⟨some 8, .alloc [(.int .i64 0), (.int .i64 0),
    (.slice none 0 0), (.slice none 0 0)], none⟩, ⟨none, .store 4 (.tmp 8) (.tmp 36), none⟩]) (.seq (.seq (.region [⟨some 37, .mv (.tmp 1), none⟩, ⟨some 38, .len (.tmp 37), none⟩,
    ⟨some 39, .mv (.const (.int .i64 0)), none⟩]) (.block 0 (.loop (.seq (.region [⟨some 40, .bin .lss (.tmp 39) (.tmp 38), none⟩]) (.seq (.cond (.tmp 40) .skip (.exit 0)) (.seq
    (.block 1 (.seq (.region [⟨some 41, .idx 1 (.tmp 37) (.tmp 39), none⟩, ⟨some 42, .load false 1 (.tmp 41), none⟩, ⟨some 10, .mv (.tmp 42), none⟩]) (.region [⟨some 43, .fld 3
    (.tmp 8), none⟩, ⟨some 44, .load false 1 (.tmp 43), none⟩, ⟨some 45, .mv (.tmp 10), none⟩, ⟨some 46, .mv (.tmp 10), none⟩, ⟨some 47, .build [(.int .i64 0), (.int .i64 0)] [(0,
    1, (.tmp 45)), (1, 1, (.tmp 46))], none⟩, ⟨some 48, .lit false 82 2 [(.tmp 47)], none⟩, ⟨some 49, .append true 82 2 16 (.tmp 44) (.tmp 48), none⟩, ⟨some 50, .fld 3 (.tmp 8),
    none⟩, ⟨none, .store 1 (.tmp 50) (.tmp 49), none⟩]))) (.region [⟨some 51, .bin .add (.tmp 39) (.const (.int .i64 1)), none⟩, ⟨some 39, .mv (.tmp 51), none⟩]))))))) (.seq
    (.region [⟨some 52, .load true 4 (.tmp 8), none⟩, ⟨some 53, .mv (.tmp 7), none⟩, ⟨none, .store 4 (.tmp 4) (.tmp 52), none⟩, ⟨some 5, .mv (.tmp 53), none⟩]) .ret)))))))
theorem low123 : lowF Tryz.prog [49] Tryz.f123 = some (54, lc123.strip, [.cell 4 true 4, .tmp 5]) := by kernel_rfl
theorem fn123 : FnOk Tryz.prog 123 54 lc123 [.cell 4 true 4, .tmp 5] := ⟨Tryz.call123, [49], _, Tryz.func123, low123⟩
/-- moonpool/cable.first -/
def lc124 : LCode :=
  (.seq (.region [⟨some 2, .mv (.const (.int .i64 0)), none⟩]) (.seq (.seq (.region [⟨some 5, .mv (.tmp 0), none⟩, ⟨some 6, .len (.tmp 5), none⟩, ⟨some 7, .mv (.const (.int .i64
    0)), none⟩]) (.block 0 (.loop (.seq (.region [⟨some 8, .bin .lss (.tmp 7) (.tmp 6), none⟩]) (.seq (.cond (.tmp 8) .skip (.exit 0)) (.seq (.block 1 (.seq (.region [⟨some 9, .idx
    1 (.tmp 5) (.tmp 7), none⟩, ⟨some 10, .load false 1 (.tmp 9), none⟩, ⟨some 4, .mv (.tmp 10), none⟩]) (.seq (.region [⟨some 11, .mv (.tmp 4), none⟩, ⟨some 12, .bin .neq (.tmp 11)
    (.const (.int .i64 0)), none⟩]) (.cond (.tmp 12) (.seq (.region [⟨some 13, .mv (.tmp 4), none⟩, ⟨some 2, .mv (.tmp 13), none⟩]) .ret) .skip)))) (.region [⟨some 14, .bin .add
    (.tmp 7) (.const (.int .i64 1)), none⟩, ⟨some 7, .mv (.tmp 14), none⟩]))))))) (.seq (.region [⟨some 2, .mv (.const (.int .i64 0)), none⟩]) .ret)))
theorem low124 : lowF Tryz.prog [] Tryz.f124 = some (15, lc124.strip, [.tmp 2]) := by kernel_rfl
theorem fn124 : FnOk Tryz.prog 124 15 lc124 [.tmp 2] := ⟨Tryz.call124, [], _, Tryz.func124, low124⟩
/-- moonpool/cable.unless -/
def lc125 : LCode :=
  (.seq (.region [⟨some 4, .mv (.const (.int .i64 0)), none⟩]) (.seq (.seq (.region [⟨some 5, .mv (.tmp 0), none⟩]) (.cond (.tmp 5) (.seq (.region [⟨some 4, .mv (.const (.int .i64
    0)), none⟩]) .ret) .skip)) (.seq (.region [⟨some 6, .mv (.tmp 1), none⟩, ⟨some 4, .mv (.tmp 6), none⟩]) .ret)))
theorem low125 : lowF Tryz.prog [] Tryz.f125 = some (7, lc125.strip, [.tmp 4]) := by kernel_rfl
theorem fn125 : FnOk Tryz.prog 125 7 lc125 [.tmp 4] := ⟨Tryz.call125, [], _, Tryz.func125, low125⟩
/-- moonpool/cable.each[int] -/
def lc126 : LCode :=
  (.seq (.region [⟨some 4, .mv (.const (.int .i64 0)), none⟩, ⟨some 5, .mv (.const (.int .i64 0)), none⟩]) (.seq (.seq (.region [⟨some 9, .mv (.tmp 0), none⟩, ⟨some 10, .len (.tmp
    9), none⟩, ⟨some 11, .mv (.const (.int .i64 0)), none⟩]) (.block 0 (.loop (.seq (.region [⟨some 12, .bin .lss (.tmp 11) (.tmp 10), none⟩]) (.seq (.cond (.tmp 12) .skip (.exit
    0)) (.seq (.block 1 (.seq (.region [⟨some 13, .mv (.tmp 11), none⟩, ⟨some 14, .idx 1 (.tmp 9) (.tmp 11), none⟩, ⟨some 15, .load false 1 (.tmp 14), none⟩, ⟨some 6, .mv (.tmp 13),
    none⟩, ⟨some 7, .mv (.tmp 15), none⟩]) (.seq (.region [⟨some 16, .mv (.tmp 1), none⟩, ⟨some 17, .mv (.tmp 6), none⟩, ⟨some 18, .mv (.tmp 7), none⟩, ⟨some 19, .call (.tmp 16)
    [(.tmp 17), (.tmp 18)], none⟩, ⟨some 8, .mv (.tmp 19), none⟩]) (.seq (.region [⟨some 20, .mv (.tmp 8), none⟩, ⟨some 21, .bin .neq (.tmp 20) (.const (.int .i64 0)), none⟩])
    (.cond (.tmp 21) (.seq (.region [⟨some 22, .mv (.tmp 6), none⟩, ⟨some 23, .mv (.tmp 8), none⟩, ⟨some 4, .mv (.tmp 22), none⟩, ⟨some 5, .mv (.tmp 23), none⟩]) .ret) .skip)))))
    (.region [⟨some 24, .bin .add (.tmp 11) (.const (.int .i64 1)), none⟩, ⟨some 11, .mv (.tmp 24), none⟩]))))))) (.seq (.region [⟨some 4, .mv (.const (.int .i64 0)), none⟩, ⟨some
    5, .mv (.const (.int .i64 0)), none⟩]) .ret)))
theorem low126 : lowF Tryz.prog [] Tryz.f126 = some (25, lc126.strip, [.tmp 4, .tmp 5]) := by kernel_rfl
theorem fn126 : FnOk Tryz.prog 126 25 lc126 [.tmp 4, .tmp 5] := ⟨Tryz.call126, [], _, Tryz.func126, low126⟩
/-- moonpool/cable.BrokenIn$1 -/
def lc127 : LCode :=
  (.seq (.region [⟨some 4, .mv (.const (.int .i64 0)), none⟩]) (.seq (.region [⟨some 5, .mv (.tmp 1), none⟩, ⟨some 6, .call (.func 128) [(.tmp 5), (.const (.int .i64 0)), (.const
    (.int .i64 50000))], none⟩, ⟨some 7, .call (.func 125) [(.tmp 6), (.const (.int .i64 2))], none⟩, ⟨some 4, .mv (.tmp 7), none⟩]) .ret))
theorem low127 : lowF Tryz.prog [] Tryz.f127 = some (8, lc127.strip, [.tmp 4]) := by kernel_rfl
theorem fn127 : FnOk Tryz.prog 127 8 lc127 [.tmp 4] := ⟨Tryz.call127, [], _, Tryz.func127, low127⟩
/-- moonpool/cable.within -/
def lc128 : LCode :=
  (.seq (.region [⟨some 6, .mv (.const (.bool false)), none⟩]) (.seq (.region [⟨some 7, .mv (.tmp 1), none⟩, ⟨some 8, .mv (.tmp 0), none⟩, ⟨some 9, .bin .leq (.tmp 7) (.tmp 8),
    none⟩, ⟨some 10, .mv (.tmp 9), none⟩, ⟨some 11, .mv (.tmp 0), some (10, true)⟩, ⟨some 12, .mv (.tmp 2), some (10, true)⟩, ⟨some 13, .bin .leq (.tmp 11) (.tmp 12), some (10,
    true)⟩, ⟨some 14, .pick (.tmp 10) (.tmp 13) (.const (.bool false)), none⟩, ⟨some 6, .mv (.tmp 14), none⟩]) .ret))
theorem low128 : lowF Tryz.prog [] Tryz.f128 = some (15, lc128.strip, [.tmp 6]) := by kernel_rfl
theorem fn128 : FnOk Tryz.prog 128 15 lc128 [.tmp 6] := ⟨Tryz.call128, [], _, Tryz.func128, low128⟩
def ra129 : LCode :=
  (.region [⟨some 5, .alloc [(.int .i64 0), (.int .i64 0), (.int .i64 0), (.int .i64 0)], none⟩, ⟨none, .store 4 (.tmp 5) (.tmp 9), none⟩])
def rb129 : LCode :=
  (.block 1 (.region [⟨some 10, .load false 1 (.tmp 3), none⟩, ⟨some 11, .fld 0 (.tmp 5), none⟩, ⟨some 12, .fld 0 (.tmp 11), none⟩, ⟨some 13, .load false 1 (.tmp 12), none⟩, ⟨some
    14, .fld 2 (.tmp 5), none⟩, ⟨some 15, .load false 1 (.tmp 14), none⟩, ⟨some 16, .build [(.int .i64 0), (.int .i64 0)] [(0, 1, (.tmp 13)), (1, 1, (.tmp 15))], none⟩, ⟨some 17,
    .lit false 23 2 [(.tmp 16)], none⟩, ⟨some 18, .append true 23 2 16 (.tmp 10) (.tmp 17), none⟩, ⟨none, .store 1 (.tmp 3) (.tmp 18), none⟩]))
/-- (moonpool/cable.line).tensions -/
def lc129 : LCode :=
  (.seq (.region [⟨some 1, .box (.tmp 0), none⟩, ⟨some 2, .mv (.const (.slice none 0 0)), none⟩]) (.seq (.region [⟨some 3, .alloc [(.slice none 0 0)], none⟩]) (.seq (.seq (.region
    [⟨some 6, .load true 4 (.tmp 1), none⟩, ⟨some 7, .call (.func 121) [(.tmp 6)], none⟩]) (.block 0 (.rangeFunc (.tmp 7) [8, 9] ra129 rb129))) (.seq (.region [⟨some 19, .load false
    1 (.tmp 3), none⟩, ⟨some 2, .mv (.tmp 19), none⟩]) .ret))))
theorem low129 : lowF Tryz.prog [18] Tryz.f129 = some (20, lc129.strip, [.tmp 2]) := by kernel_rfl
theorem fn129 : FnOk Tryz.prog 129 20 lc129 [.tmp 2] := ⟨Tryz.call129, [18], _, Tryz.func129, low129⟩
/-- moonpool/cable.square -/
def lc130 : LCode :=
  (.seq (.region [⟨some 1, .box (.tmp 0), none⟩, ⟨some 2, .mv (.const (.int .i64 0)), none⟩]) (.seq (.region [⟨some 3, .fld 0 (.tmp 1), none⟩, ⟨some 4, .load false 1 (.tmp 3),
    none⟩, ⟨some 5, .fld 0 (.tmp 1), none⟩, ⟨some 6, .load false 1 (.tmp 5), none⟩, ⟨some 7, .bin .mul (.tmp 4) (.tmp 6), none⟩, ⟨some 8, .fld 1 (.tmp 1), none⟩, ⟨some 9, .load
    false 1 (.tmp 8), none⟩, ⟨some 10, .fld 1 (.tmp 1), none⟩, ⟨some 11, .load false 1 (.tmp 10), none⟩, ⟨some 12, .bin .mul (.tmp 9) (.tmp 11), none⟩, ⟨some 13, .bin .add (.tmp 7)
    (.tmp 12), none⟩, ⟨some 2, .mv (.tmp 13), none⟩]) .ret))
theorem low130 : lowF Tryz.prog [] Tryz.f130 = some (14, lc130.strip, [.tmp 2]) := by kernel_rfl
theorem fn130 : FnOk Tryz.prog 130 14 lc130 [.tmp 2] := ⟨Tryz.call130, [], _, Tryz.func130, low130⟩
/-- moonpool/cable.openReadings -/
def lc131 : LCode :=
  (.seq (.region [⟨some 3, .box (.tmp 0), none⟩, ⟨some 6, .alloc [(.int .i64 0), (.int .i64 0), (.slice none 0 0), (.slice none 0 0)], none⟩, ⟨some 7, .mv (.const (.int .i64 0)),
    none⟩]) (.seq (.region [⟨some 11, .load true 3 (.tmp 3), none⟩, ⟨some 12, .mv (.tmp 1), none⟩, ⟨some 13, .call (.func 120) [(.tmp 11), (.tmp 12)], none⟩, ⟨some 10, .mv (.tmp
    13), none⟩, ⟨some 14, .ext (.tmp 10) 0, none⟩, ⟨some 15, .ext (.tmp 10) 1, none⟩, ⟨some 8, .alloc [(.int .i64 0), (.int .i64 0), (.slice none 0 0), (.slice none 0 0)], none⟩,
    ⟨none, .store 4 (.tmp 8) (.tmp 14), none⟩, ⟨some 9, .mv (.tmp 15), none⟩]) (.seq (.seq (.region [⟨some 16, .mv (.tmp 9), none⟩, ⟨some 17, .mv (.tmp 2), none⟩, ⟨some 18, .len
    (.tmp 17), none⟩, ⟨some 19, .bin .leq (.tmp 18) (.const (.int .i64 12)), none⟩, ⟨some 20, .call (.func 125) [(.tmp 19), (.const (.int .i64 8))], none⟩, ⟨some 21, .lit false 34 1
    [(.tmp 16), (.tmp 20)], none⟩, ⟨some 22, .call (.func 124) [(.tmp 21)], none⟩, ⟨some 9, .mv (.tmp 22), none⟩]) (.seq (.region [⟨some 23, .mv (.tmp 9), none⟩, ⟨some 24, .bin .neq
    (.tmp 23) (.const (.int .i64 0)), none⟩]) (.cond (.tmp 24) (.seq (.region [⟨some 25, .load true 4 (.tmp 8), none⟩, ⟨some 26, .mv (.tmp 9), none⟩, ⟨none, .store 4 (.tmp 6) (.tmp
    25), none⟩, ⟨some 7, .mv (.tmp 26), none⟩]) .ret) .skip))) (.seq (.region [⟨some 28, .mv (.tmp 2), none⟩, ⟨some 29, .mkfn 212 [(.tmp 3)], none⟩, ⟨some 30, .call (.func 211)
    [(.tmp 28), (.tmp 29)], none⟩, ⟨some 27, .mv (.tmp 30), none⟩, ⟨some 31, .ext (.tmp 27) 0, none⟩, ⟨some 32, .ext (.tmp 27) 1, none⟩, ⟨some 9, .mv (.tmp 32), none⟩]) (.seq
    (.region [⟨some 33, .load true 4 (.tmp 8), none⟩, ⟨some 34, .mv (.tmp 9), none⟩, ⟨none, .store 4 (.tmp 6) (.tmp 33), none⟩, ⟨some 7, .mv (.tmp 34), none⟩]) .ret)))))
theorem low131 : lowF Tryz.prog [] Tryz.f131 = some (35, lc131.strip, [.cell 6 true 4, .tmp 7]) := by kernel_rfl
theorem fn131 : FnOk Tryz.prog 131 35 lc131 [.cell 6 true 4, .tmp 7] := ⟨Tryz.call131, [], _, Tryz.func131, low131⟩
/-- slices.IndexFunc[[]moonpool/api.CableReading,moonpool/api.CableReading] -/
def lc132 : LCode :=
  (.seq (.region [⟨some 4, .mv (.const (.int .i64 0)), none⟩]) (.seq (.seq (.region [⟨some 6, .mv (.tmp 0), none⟩, ⟨some 7, .len (.tmp 6), none⟩, ⟨some 8, .mv (.const (.int .i64
    0)), none⟩]) (.block 0 (.loop (.seq (.region [⟨some 9, .bin .lss (.tmp 8) (.tmp 7), none⟩]) (.seq (.cond (.tmp 9) .skip (.exit 0)) (.seq (.block 1 (.seq (.region [⟨some 10, .mv
    (.tmp 8), none⟩, ⟨some 5, .mv (.tmp 10), none⟩]) (.seq (.region [⟨some 11, .mv (.tmp 1), none⟩, ⟨some 12, .mv (.tmp 0), none⟩, ⟨some 13, .mv (.tmp 5), none⟩, ⟨some 14, .idx 3
    (.tmp 12) (.tmp 13), none⟩, ⟨some 15, .load true 3 (.tmp 14), none⟩, ⟨some 16, .call (.tmp 11) [(.tmp 15)], none⟩]) (.cond (.tmp 16) (.seq (.region [⟨some 17, .mv (.tmp 5),
    none⟩, ⟨some 4, .mv (.tmp 17), none⟩]) .ret) .skip)))) (.region [⟨some 18, .bin .add (.tmp 8) (.const (.int .i64 1)), none⟩, ⟨some 8, .mv (.tmp 18), none⟩]))))))) (.seq (.region
    [⟨some 4, .mv (.const (.int .i64 (-1))), none⟩]) .ret)))
theorem low132 : lowF Tryz.prog [] Tryz.f132 = some (19, lc132.strip, [.tmp 4]) := by kernel_rfl
theorem fn132 : FnOk Tryz.prog 132 19 lc132 [.tmp 4] := ⟨Tryz.call132, [], _, Tryz.func132, low132⟩
/-- moonpool/cable.ContradictionOf$1 -/
def lc133 : LCode :=
  (.seq (.region [⟨some 2, .box (.tmp 0), none⟩, ⟨some 3, .mv (.const (.bool false)), none⟩]) (.seq (.region [⟨some 4, .load true 4 (.tmp 1), none⟩, ⟨some 5, .load true 3 (.tmp 2),
    none⟩, ⟨some 6, .call (.func 134) [(.tmp 4), (.tmp 5)], none⟩, ⟨some 7, .bin .gtr (.tmp 6) (.const (.int .i64 0)), none⟩, ⟨some 3, .mv (.tmp 7), none⟩]) .ret))
theorem low133 : lowF Tryz.prog [] Tryz.f133 = some (8, lc133.strip, [.tmp 3]) := by kernel_rfl
theorem fn133 : FnOk Tryz.prog 133 8 lc133 [.tmp 3] := ⟨Tryz.call133, [], _, Tryz.func133, low133⟩
def ra134 : LCode :=
  (.seq (.region [⟨some 5, .mv (.tmp 9), none⟩]) (.region [⟨some 6, .alloc [(.int .i64 0), (.int .i64 0), (.int .i64 0), (.int .i64 0)], none⟩, ⟨none, .store 4 (.tmp 6) (.tmp 10),
    none⟩]))
def rb134 : LCode :=
  (.block 1 (.seq (.region [⟨some 11, .mv (.tmp 5), none⟩, ⟨some 12, .fld 0 (.tmp 3), none⟩, ⟨some 13, .load false 1 (.tmp 12), none⟩, ⟨some 14, .bin .eql (.tmp 11) (.tmp 13),
    none⟩]) (.cond (.tmp 14) (.seq (.region [⟨some 15, .fld 1 (.tmp 3), none⟩, ⟨some 16, .load true 2 (.tmp 15), none⟩, ⟨some 17, .fld 0 (.tmp 6), none⟩, ⟨some 18, .load true 2
    (.tmp 17), none⟩, ⟨some 19, .call (.func 213) [(.tmp 16), (.tmp 18)], none⟩, ⟨none, .store 1 (.tmp 4) (.tmp 19), none⟩]) .ret) .skip)))
/-- (moonpool/cable.line).alone -/
def lc134 : LCode :=
  (.seq (.region [⟨some 2, .box (.tmp 0), none⟩, ⟨some 3, .box (.tmp 1), none⟩, ⟨some 4, .alloc [(.int .i64 0)], none⟩]) (.seq (.seq (.region [⟨some 7, .load true 4 (.tmp 2), none⟩,
    ⟨some 8, .call (.func 121) [(.tmp 7)], none⟩]) (.block 0 (.rangeFunc (.tmp 8) [9, 10] ra134 rb134))) (.seq (.region [⟨none, .store 1 (.tmp 4) (.const (.int .i64 0)), none⟩])
    .ret)))
theorem low134 : lowF Tryz.prog [] Tryz.f134 = some (20, lc134.strip, [.cell 4 false 1]) := by kernel_rfl
theorem fn134 : FnOk Tryz.prog 134 20 lc134 [.cell 4 false 1] := ⟨Tryz.call134, [], _, Tryz.func134, low134⟩
/-- (moonpool/cable.line).between -/
def lc135 : LCode :=
  (.seq (.region [⟨some 3, .box (.tmp 0), none⟩, ⟨some 4, .box (.tmp 1), none⟩, ⟨some 5, .box (.tmp 2), none⟩, ⟨some 6, .mv (.const (.int .i64 0)), none⟩]) (.seq (.seq (.region
    [⟨some 9, .fld 0 (.tmp 4), none⟩, ⟨some 10, .load false 1 (.tmp 9), none⟩, ⟨some 11, .fld 0 (.tmp 5), none⟩, ⟨some 12, .load false 1 (.tmp 11), none⟩, ⟨some 13, .bin .gtr (.tmp
    10) (.tmp 12), none⟩]) (.cond (.tmp 13) (.region [⟨some 14, .load true 3 (.tmp 5), none⟩, ⟨some 15, .load true 3 (.tmp 4), none⟩, ⟨none, .store 3 (.tmp 4) (.tmp 14), none⟩,
    ⟨none, .store 3 (.tmp 5) (.tmp 15), none⟩]) .skip)) (.seq (.seq (.region [⟨some 16, .fld 0 (.tmp 4), none⟩, ⟨some 17, .load false 1 (.tmp 16), none⟩, ⟨some 18, .bin .add (.tmp
    17) (.const (.int .i64 1)), none⟩, ⟨some 7, .mv (.tmp 18), none⟩]) (.block 0 (.loop (.seq (.seq (.region [⟨some 19, .mv (.tmp 7), none⟩, ⟨some 20, .fld 0 (.tmp 5), none⟩, ⟨some
    21, .load false 1 (.tmp 20), none⟩, ⟨some 22, .bin .leq (.tmp 19) (.tmp 21), none⟩]) (.cond (.tmp 22) .skip (.exit 0))) (.seq (.block 1 (.seq (.region [⟨some 25, .fld 0 (.tmp
    3), none⟩, ⟨some 26, .fld 2 (.tmp 25), none⟩, ⟨some 27, .load false 1 (.tmp 26), none⟩, ⟨some 28, .mv (.tmp 7), none⟩, ⟨some 29, .idx 3 (.tmp 27) (.tmp 28), none⟩, ⟨some 30,
    .fld 2 (.tmp 29), none⟩, ⟨some 31, .load false 1 (.tmp 30), none⟩, ⟨some 8, .mv (.tmp 31), none⟩]) (.seq (.regionD [⟨some 32, .fld 1 (.tmp 4), none⟩, ⟨some 33, .fld 0 (.tmp 32),
    none⟩, ⟨some 34, .load false 1 (.tmp 33), none⟩, ⟨some 35, .mv (.tmp 8), none⟩, ⟨some 36, .fld 3 (.tmp 3), none⟩, ⟨some 37, .load false 1 (.tmp 36), none⟩, ⟨some 38, .mv (.tmp
    7), none⟩, ⟨some 39, .idx 2 (.tmp 37) (.tmp 38), none⟩, ⟨some 40, .fld 0 (.tmp 39), none⟩, ⟨some 41, .load false 1 (.tmp 40), none⟩, ⟨some 42, .bin .mul (.tmp 35) (.tmp 41),
    none⟩, ⟨some 43, .bin .add (.tmp 34) (.tmp 42), none⟩, ⟨some 44, .fld 1 (.tmp 4), none⟩, ⟨some 45, .fld 0 (.tmp 44), none⟩, ⟨none, .store 1 (.tmp 45) (.tmp 43), none⟩] [0, 1, 3,
    0, 0, 16, 0, 112, 240, 496, 1016, 2047, 4095, 8191, 16383] [0, 1, 2, 3, 4, 5, 6, 7, 8, 9, 10, 11, 12, 13, 14]) (.regionD [⟨some 46, .fld 1 (.tmp 4), none⟩, ⟨some 47, .fld 1
    (.tmp 46), none⟩, ⟨some 48, .load false 1 (.tmp 47), none⟩, ⟨some 49, .mv (.tmp 8), none⟩, ⟨some 50, .fld 3 (.tmp 3), none⟩, ⟨some 51, .load false 1 (.tmp 50), none⟩, ⟨some 52,
    .mv (.tmp 7), none⟩, ⟨some 53, .idx 2 (.tmp 51) (.tmp 52), none⟩, ⟨some 54, .fld 1 (.tmp 53), none⟩, ⟨some 55, .load false 1 (.tmp 54), none⟩, ⟨some 56, .bin .mul (.tmp 49)
    (.tmp 55), none⟩, ⟨some 57, .bin .add (.tmp 48) (.tmp 56), none⟩, ⟨some 58, .fld 1 (.tmp 4), none⟩, ⟨some 59, .fld 1 (.tmp 58), none⟩, ⟨none, .store 1 (.tmp 59) (.tmp 57),
    none⟩] [0, 1, 3, 0, 0, 16, 0, 112, 240, 496, 1016, 2047, 4095, 8191, 16383] [0, 1, 2, 3, 4, 5, 6, 7, 8, 9, 10, 11, 12, 13, 14])))) (.region [⟨some 23, .mv (.tmp 7), none⟩, ⟨some
    24, .bin .add (.tmp 23) (.const (.int .i64 1)), none⟩, ⟨some 7, .mv (.tmp 24), none⟩])))))) (.seq (.region [⟨some 60, .fld 1 (.tmp 4), none⟩, ⟨some 61, .load true 2 (.tmp 60),
    none⟩, ⟨some 62, .fld 1 (.tmp 5), none⟩, ⟨some 63, .load true 2 (.tmp 62), none⟩, ⟨some 64, .call (.func 213) [(.tmp 61), (.tmp 63)], none⟩, ⟨some 6, .mv (.tmp 64), none⟩])
    .ret))))
theorem low135 : lowF Tryz.prog [] Tryz.f135 = some (65, lc135.strip, [.tmp 6]) := by kernel_rfl
theorem fn135 : FnOk Tryz.prog 135 65 lc135 [.tmp 6] := ⟨Tryz.call135, [], _, Tryz.func135, low135⟩
/-- moonpool/cable.tight -/
def lc136 : LCode :=
  (.seq (.region [⟨some 2, .box (.tmp 0), none⟩, ⟨some 4, .alloc [(.int .i64 0), (.int .i64 0), (.slice none 0 0), (.slice none 0 0)], none⟩, ⟨some 5, .mv (.const (.int .i64 0)),
    none⟩]) (.seq (.seq (.region [⟨some 6, .mv (.tmp 1), none⟩, ⟨some 7, .bin .eql (.tmp 6) (.const (.int .i64 0)), none⟩]) (.cond (.tmp 7) (.region [⟨some 8, .load true 4 (.tmp 2),
    none⟩, ⟨some 9, .call (.func 214) [(.tmp 8)], none⟩, ⟨some 1, .mv (.tmp 9), none⟩]) .skip)) (.seq (.region [⟨some 10, .load true 4 (.tmp 2), none⟩, ⟨some 11, .mv (.tmp 1),
    none⟩, ⟨none, .store 4 (.tmp 4) (.tmp 10), none⟩, ⟨some 5, .mv (.tmp 11), none⟩]) .ret)))
theorem low136 : lowF Tryz.prog [] Tryz.f136 = some (12, lc136.strip, [.cell 4 true 4, .tmp 5]) := by kernel_rfl
theorem fn136 : FnOk Tryz.prog 136 12 lc136 [.cell 4 true 4, .tmp 5] := ⟨Tryz.call136, [], _, Tryz.func136, low136⟩
/-- (moonpool/cable.pull).length -/
def lc137 : LCode :=
  (.seq (.region [⟨some 2, .box (.tmp 0), none⟩, ⟨some 4, .alloc [(.int .i64 0), (.int .i64 0)], none⟩]) (.seq (.regionD [⟨some 9, .fld 3 (.tmp 2), none⟩, ⟨some 10, .load false 1
    (.tmp 9), none⟩, ⟨some 11, .fld 3 (.tmp 2), none⟩, ⟨some 12, .load false 1 (.tmp 11), none⟩, ⟨some 13, .bin .mul (.tmp 10) (.tmp 12), none⟩, ⟨some 14, .mv (.tmp 1), none⟩, ⟨some
    15, .mv (.tmp 1), none⟩, ⟨some 16, .bin .mul (.tmp 14) (.tmp 15), none⟩, ⟨some 17, .fld 2 (.tmp 2), none⟩, ⟨some 18, .load false 1 (.tmp 17), none⟩, ⟨some 19, .fld 2 (.tmp 2),
    none⟩, ⟨some 20, .load false 1 (.tmp 19), none⟩, ⟨some 21, .bin .mul (.tmp 18) (.tmp 20), none⟩, ⟨some 22, .bin .add (.tmp 16) (.tmp 21), none⟩, ⟨some 23, .bin .mul (.tmp 13)
    (.tmp 22), none⟩, ⟨some 24, .fld 2 (.tmp 2), none⟩, ⟨some 25, .load false 1 (.tmp 24), none⟩, ⟨some 26, .fld 2 (.tmp 2), none⟩, ⟨some 27, .load false 1 (.tmp 26), none⟩, ⟨some
    28, .bin .mul (.tmp 25) (.tmp 27), none⟩, ⟨some 5, .mv (.tmp 23), none⟩, ⟨some 6, .mv (.tmp 28), none⟩] [0, 1, 0, 4, 15, 0, 0, 96, 0, 256, 0, 1024, 3840, 8160, 16383, 0, 32768,
    0, 131072, 491520, 32767, 2097151] [0, 1, 2, 3, 4, 5, 6, 7, 8, 9, 10, 11, 12, 13, 14, 15, 16, 17, 18, 19, 20, 21]) (.seq (.region [⟨some 29, .mv (.tmp 5), none⟩, ⟨some 30, .mv
    (.tmp 6), none⟩, ⟨some 31, .bin .quo (.tmp 29) (.tmp 30), none⟩, ⟨some 32, .call (.func 215) [(.tmp 31)], none⟩, ⟨some 7, .mv (.tmp 32), none⟩]) (.seq (.region [⟨some 33, .mv
    (.tmp 7), none⟩, ⟨some 34, .mv (.tmp 7), none⟩, ⟨some 35, .build [(.int .i64 0), (.int .i64 0)] [(0, 1, (.tmp 33)), (1, 1, (.tmp 34))], none⟩, ⟨some 8, .alloc [(.int .i64 0),
    (.int .i64 0)], none⟩, ⟨none, .store 2 (.tmp 8) (.tmp 35), none⟩]) (.seq (.seq (.region [⟨some 36, .mv (.tmp 7), none⟩, ⟨some 37, .mv (.tmp 7), none⟩, ⟨some 38, .bin .mul (.tmp
    36) (.tmp 37), none⟩, ⟨some 39, .mv (.tmp 6), none⟩, ⟨some 40, .bin .mul (.tmp 38) (.tmp 39), none⟩, ⟨some 41, .mv (.tmp 5), none⟩, ⟨some 42, .bin .neq (.tmp 40) (.tmp 41),
    none⟩]) (.cond (.tmp 42) (.region [⟨some 43, .fld 1 (.tmp 8), none⟩, ⟨some 44, .load false 1 (.tmp 43), none⟩, ⟨some 45, .bin .add (.tmp 44) (.const (.int .i64 1)), none⟩, ⟨some
    46, .fld 1 (.tmp 8), none⟩, ⟨none, .store 1 (.tmp 46) (.tmp 45), none⟩]) .skip)) (.seq (.region [⟨some 47, .load true 2 (.tmp 8), none⟩, ⟨none, .store 2 (.tmp 4) (.tmp 47),
    none⟩]) .ret))))))
theorem low137 : lowF Tryz.prog [] Tryz.f137 = some (48, lc137.strip, [.cell 4 true 2]) := by kernel_rfl
theorem fn137 : FnOk Tryz.prog 137 48 lc137 [.cell 4 true 2] := ⟨Tryz.call137, [], _, Tryz.func137, low137⟩
end Go.Pw

set_option linter.unusedVariables false
set_option maxHeartbeats 2000000
set_option maxRecDepth 100000
namespace Go.Pw
open Go Go.Proofs
end Go.Pw

set_option linter.unusedVariables false
set_option maxHeartbeats 2000000
set_option maxRecDepth 100000
namespace Go.Pw
open Go Go.Proofs
/-- slices.Contains[[]int,int] -/
def lc186 : LCode :=
  (.seq (.region [⟨some 4, .mv (.const (.bool false)), none⟩]) (.seq (.region [⟨some 5, .mv (.tmp 0), none⟩, ⟨some 6, .mv (.tmp 1), none⟩, ⟨some 7, .call (.func 250) [(.tmp 5),
    (.tmp 6)], none⟩, ⟨some 8, .bin .geq (.tmp 7) (.const (.int .i64 0)), none⟩, ⟨some 4, .mv (.tmp 8), none⟩]) .ret))
theorem low186 : lowF Tryz.prog [] Tryz.f186 = some (9, lc186.strip, [.tmp 4]) := by kernel_rfl
theorem fn186 : FnOk Tryz.prog 186 9 lc186 [.tmp 4] := ⟨Tryz.call186, [], _, Tryz.func186, low186⟩
/-- moonpool/cable.isSized -/
def lc187 : LCode :=
  (.seq (.region [⟨some 4, .mv (.const (.bool false)), none⟩]) (.seq (.region [⟨some 5, .mv (.tmp 0), none⟩, ⟨some 6, .mv (.tmp 1), none⟩, ⟨some 7, .un .neg (.tmp 6), none⟩, ⟨some
    8, .mv (.tmp 1), none⟩, ⟨some 9, .call (.func 128) [(.tmp 5), (.tmp 7), (.tmp 8)], none⟩, ⟨some 4, .mv (.tmp 9), none⟩]) .ret))
theorem low187 : lowF Tryz.prog [] Tryz.f187 = some (10, lc187.strip, [.tmp 4]) := by kernel_rfl
theorem fn187 : FnOk Tryz.prog 187 10 lc187 [.tmp 4] := ⟨Tryz.call187, [], _, Tryz.func187, low187⟩
/-- moonpool/cable.each[moonpool/api.CableLink] -/
def lc188 : LCode :=
  (.seq (.region [⟨some 4, .mv (.const (.int .i64 0)), none⟩, ⟨some 5, .mv (.const (.int .i64 0)), none⟩]) (.seq (.seq (.region [⟨some 9, .mv (.tmp 0), none⟩, ⟨some 10, .len (.tmp
    9), none⟩, ⟨some 11, .mv (.const (.int .i64 0)), none⟩]) (.block 0 (.loop (.seq (.region [⟨some 12, .bin .lss (.tmp 11) (.tmp 10), none⟩]) (.seq (.cond (.tmp 12) .skip (.exit
    0)) (.seq (.block 1 (.seq (.region [⟨some 13, .mv (.tmp 11), none⟩, ⟨some 14, .idx 3 (.tmp 9) (.tmp 11), none⟩, ⟨some 15, .load true 3 (.tmp 14), none⟩, ⟨some 7, .alloc [(.int
    .i64 0), (.int .i64 0), (.int .i64 0)], none⟩, ⟨some 6, .mv (.tmp 13), none⟩, ⟨none, .store 3 (.tmp 7) (.tmp 15), none⟩]) (.seq (.region [⟨some 16, .mv (.tmp 1), none⟩, ⟨some
    17, .mv (.tmp 6), none⟩, ⟨some 18, .load true 3 (.tmp 7), none⟩, ⟨some 19, .call (.tmp 16) [(.tmp 17), (.tmp 18)], none⟩, ⟨some 8, .mv (.tmp 19), none⟩]) (.seq (.region [⟨some
    20, .mv (.tmp 8), none⟩, ⟨some 21, .bin .neq (.tmp 20) (.const (.int .i64 0)), none⟩]) (.cond (.tmp 21) (.seq (.region [⟨some 22, .mv (.tmp 6), none⟩, ⟨some 23, .mv (.tmp 8),
    none⟩, ⟨some 4, .mv (.tmp 22), none⟩, ⟨some 5, .mv (.tmp 23), none⟩]) .ret) .skip))))) (.region [⟨some 24, .bin .add (.tmp 11) (.const (.int .i64 1)), none⟩, ⟨some 11, .mv (.tmp
    24), none⟩]))))))) (.seq (.region [⟨some 4, .mv (.const (.int .i64 0)), none⟩, ⟨some 5, .mv (.const (.int .i64 0)), none⟩]) .ret)))
theorem low188 : lowF Tryz.prog [] Tryz.f188 = some (25, lc188.strip, [.tmp 4, .tmp 5]) := by kernel_rfl
theorem fn188 : FnOk Tryz.prog 188 25 lc188 [.tmp 4, .tmp 5] := ⟨Tryz.call188, [], _, Tryz.func188, low188⟩
/-- moonpool/cable.CheckLine$1 -/
def lc189 : LCode :=
  (.seq (.region [⟨some 3, .box (.tmp 1), none⟩, ⟨some 4, .mv (.const (.int .i64 0)), none⟩]) (.seq (.region [⟨some 6, .fld 0 (.tmp 3), none⟩, ⟨some 7, .load false 1 (.tmp 6),
    none⟩, ⟨some 8, .call (.func 128) [(.tmp 7), (.const (.int .i64 1)), (.const (.int .i64 1000))], none⟩, ⟨some 9, .mv (.tmp 8), none⟩, ⟨some 10, .fld 1 (.tmp 3), some (9, true)⟩,
    ⟨some 11, .load false 1 (.tmp 10), some (9, true)⟩, ⟨some 12, .call (.func 187) [(.tmp 11), (.const (.int .i64 1000))], some (9, true)⟩, ⟨some 13, .pick (.tmp 9) (.tmp 12)
    (.const (.bool false)), none⟩, ⟨some 14, .mv (.tmp 13), none⟩, ⟨some 15, .fld 2 (.tmp 3), some (14, true)⟩, ⟨some 16, .load false 1 (.tmp 15), some (14, true)⟩, ⟨some 17, .call
    (.func 128) [(.tmp 16), (.const (.int .i64 0)), (.const (.int .i64 20))], some (14, true)⟩, ⟨some 18, .pick (.tmp 14) (.tmp 17) (.const (.bool false)), none⟩, ⟨some 5, .mv (.tmp
    18), none⟩]) (.seq (.region [⟨some 19, .mv (.tmp 5), none⟩, ⟨some 20, .call (.func 125) [(.tmp 19), (.const (.int .i64 2))], none⟩, ⟨some 4, .mv (.tmp 20), none⟩]) .ret)))
theorem low189 : lowF Tryz.prog [] Tryz.f189 = some (21, lc189.strip, [.tmp 4]) := by kernel_rfl
theorem fn189 : FnOk Tryz.prog 189 21 lc189 [.tmp 4] := ⟨Tryz.call189, [], _, Tryz.func189, low189⟩
/-- slices.Chunk[[]string,string]$1 -/
def lc190 : LCode :=
  (.seq (.region [⟨some 4, .mv (.const (.int .i64 0)), none⟩]) (.block 0 (.loop (.seq (.seq (.region [⟨some 6, .mv (.tmp 4), none⟩, ⟨some 7, .load false 1 (.tmp 1), none⟩, ⟨some 8,
    .len (.tmp 7), none⟩, ⟨some 9, .bin .lss (.tmp 6) (.tmp 8), none⟩]) (.cond (.tmp 9) .skip (.exit 0))) (.seq (.block 1 (.seq (.regionD [⟨some 13, .load false 1 (.tmp 2), none⟩,
    ⟨some 14, .load false 1 (.tmp 1), none⟩, ⟨some 15, .mv (.tmp 4), none⟩, ⟨some 16, .slc 1 (.tmp 14) (some (.tmp 15)) none, none⟩, ⟨some 17, .len (.tmp 16), none⟩, ⟨some 18, .mm
    false [(.tmp 13), (.tmp 17)], none⟩, ⟨some 5, .mv (.tmp 18), none⟩] [0, 0, 0, 6, 14, 31, 63] [0, 1, 2, 3, 4, 5, 6]) (.seq (.region [⟨some 19, .mv (.tmp 0), none⟩, ⟨some 20,
    .load false 1 (.tmp 1), none⟩, ⟨some 21, .mv (.tmp 4), none⟩, ⟨some 22, .mv (.tmp 4), none⟩, ⟨some 23, .mv (.tmp 5), none⟩, ⟨some 24, .bin .add (.tmp 22) (.tmp 23), none⟩, ⟨some
    25, .mv (.tmp 4), none⟩, ⟨some 26, .mv (.tmp 5), none⟩, ⟨some 27, .bin .add (.tmp 25) (.tmp 26), none⟩, ⟨some 28, .slc3 1 (.tmp 20) (.tmp 21) (.tmp 24) (.tmp 27), none⟩, ⟨some 29, .call (.tmp 19) [(.tmp 28)], none⟩,
    ⟨some 30, .un .not (.tmp 29), none⟩]) (.cond (.tmp 30) .ret .skip)))) (.region [⟨some 10, .mv (.tmp 4), none⟩, ⟨some 11, .load false 1 (.tmp 2), none⟩, ⟨some 12, .bin .add (.tmp
    10) (.tmp 11), none⟩, ⟨some 4, .mv (.tmp 12), none⟩]))))))
theorem low190 : lowF Tryz.prog [] Tryz.f190 = some (31, lc190.strip, []) := by kernel_rfl
theorem fn190 : FnOk Tryz.prog 190 31 lc190 [] := ⟨Tryz.call190, [], _, Tryz.func190, low190⟩
/-- slices.IndexFunc[[]moonpool/api.Range,moonpool/api.Range] -/
def lc193 : LCode :=
  (.seq (.region [⟨some 4, .mv (.const (.int .i64 0)), none⟩]) (.seq (.seq (.region [⟨some 6, .mv (.tmp 0), none⟩, ⟨some 7, .len (.tmp 6), none⟩, ⟨some 8, .mv (.const (.int .i64
    0)), none⟩]) (.block 0 (.loop (.seq (.region [⟨some 9, .bin .lss (.tmp 8) (.tmp 7), none⟩]) (.seq (.cond (.tmp 9) .skip (.exit 0)) (.seq (.block 1 (.seq (.region [⟨some 10, .mv
    (.tmp 8), none⟩, ⟨some 5, .mv (.tmp 10), none⟩]) (.seq (.region [⟨some 11, .mv (.tmp 1), none⟩, ⟨some 12, .mv (.tmp 0), none⟩, ⟨some 13, .mv (.tmp 5), none⟩, ⟨some 14, .idx 2
    (.tmp 12) (.tmp 13), none⟩, ⟨some 15, .load true 2 (.tmp 14), none⟩, ⟨some 16, .call (.tmp 11) [(.tmp 15)], none⟩]) (.cond (.tmp 16) (.seq (.region [⟨some 17, .mv (.tmp 5),
    none⟩, ⟨some 4, .mv (.tmp 17), none⟩]) .ret) .skip)))) (.region [⟨some 18, .bin .add (.tmp 8) (.const (.int .i64 1)), none⟩, ⟨some 8, .mv (.tmp 18), none⟩]))))))) (.seq (.region
    [⟨some 4, .mv (.const (.int .i64 (-1))), none⟩]) .ret)))
theorem low193 : lowF Tryz.prog [] Tryz.f193 = some (19, lc193.strip, [.tmp 4]) := by kernel_rfl
theorem fn193 : FnOk Tryz.prog 193 19 lc193 [.tmp 4] := ⟨Tryz.call193, [], _, Tryz.func193, low193⟩
/-- moonpool/moonpoolref01.isCurrent -/
def lc195 : LCode :=
  (.seq (.region [⟨some 2, .mv (.const (.bool false)), none⟩]) (.seq (.region [⟨some 3, .mv (.tmp 0), none⟩, ⟨some 4, .call (.func 46) [(.tmp 3), (.const (.int .i64 (-50))), (.const
    (.int .i64 50))], none⟩, ⟨some 2, .mv (.tmp 4), none⟩]) .ret))
theorem low195 : lowF Tryz.prog [] Tryz.f195 = some (5, lc195.strip, [.tmp 2]) := by kernel_rfl
theorem fn195 : FnOk Tryz.prog 195 5 lc195 [.tmp 2] := ⟨Tryz.call195, [], _, Tryz.func195, low195⟩
/-- moonpool/cable.CheckBox -/
def lc207 : LCode :=
  (.seq (.region [⟨some 2, .box (.tmp 0), none⟩, ⟨some 4, .mv (.const (.int .i64 0)), none⟩, ⟨some 5, .mv (.const (.int .i64 0)), none⟩]) (.seq (.seq (.region [⟨some 9, .load true 3
    (.tmp 2), none⟩, ⟨some 10, .call (.func 96) [(.tmp 9)], none⟩, ⟨some 8, .mv (.tmp 10), none⟩, ⟨some 11, .ext (.tmp 8) 0, none⟩, ⟨some 12, .ext (.tmp 8) 1, none⟩, ⟨some 6, .mv
    (.tmp 11), none⟩, ⟨some 7, .mv (.tmp 12), none⟩]) (.seq (.region [⟨some 13, .mv (.tmp 7), none⟩, ⟨some 14, .bin .neq (.tmp 13) (.const (.int .i64 0)), none⟩]) (.cond (.tmp 14)
    (.seq (.region [⟨some 15, .mv (.tmp 6), none⟩, ⟨some 16, .mv (.tmp 7), none⟩, ⟨some 4, .mv (.tmp 15), none⟩, ⟨some 5, .mv (.tmp 16), none⟩]) .ret) .skip))) (.seq (.seq (.region
    [⟨some 17, .mv (.tmp 1), none⟩, ⟨some 18, .len (.tmp 17), none⟩, ⟨some 19, .fld 2 (.tmp 2), none⟩, ⟨some 20, .load false 1 (.tmp 19), none⟩, ⟨some 21, .len (.tmp 20), none⟩,
    ⟨some 22, .bin .neq (.tmp 18) (.tmp 21), none⟩]) (.cond (.tmp 22) (.seq (.region [⟨some 4, .mv (.const (.int .i64 0)), none⟩, ⟨some 5, .mv (.const (.int .i64 10)), none⟩]) .ret)
    .skip)) (.seq (.region [⟨some 23, .mv (.tmp 1), none⟩, ⟨some 24, .call (.func 260) [(.tmp 23), (.func 261)], none⟩, ⟨some 25, .ext (.tmp 24) 0, none⟩, ⟨some 26, .ext (.tmp 24)
    1, none⟩, ⟨some 4, .mv (.tmp 25), none⟩, ⟨some 5, .mv (.tmp 26), none⟩]) .ret))))
theorem low207 : lowF Tryz.prog [] Tryz.f207 = some (27, lc207.strip, [.tmp 4, .tmp 5]) := by kernel_rfl
theorem fn207 : FnOk Tryz.prog 207 27 lc207 [.tmp 4, .tmp 5] := ⟨Tryz.call207, [], _, Tryz.func207, low207⟩
/-- (moonpool/cable.line).pulls$1 -/
def lc208 : LCode :=
  (.seq (.region [⟨some 6, .fld 0 (.tmp 1), none⟩, ⟨some 7, .fld 0 (.tmp 6), none⟩, ⟨some 8, .fld 0 (.tmp 7), none⟩, ⟨some 9, .load false 1 (.tmp 8), none⟩, ⟨some 10, .fld 0 (.tmp
    1), none⟩, ⟨some 11, .fld 0 (.tmp 10), none⟩, ⟨some 12, .fld 0 (.tmp 11), none⟩, ⟨some 13, .load false 1 (.tmp 12), none⟩, ⟨some 14, .build [(.int .i64 0), (.int .i64 0)] [(0,
    1, (.tmp 9)), (1, 1, (.tmp 13))], none⟩, ⟨some 15, .fld 0 (.tmp 1), none⟩, ⟨some 16, .fld 0 (.tmp 15), none⟩, ⟨some 17, .fld 1 (.tmp 16), none⟩, ⟨some 18, .load false 1 (.tmp
    17), none⟩, ⟨some 19, .build [(.int .i64 0), (.int .i64 0), (.int .i64 0), (.int .i64 0)] [(0, 2, (.tmp 14)), (2, 1, (.tmp 18))], none⟩, ⟨some 3, .alloc [(.int .i64 0), (.int
    .i64 0), (.int .i64 0), (.int .i64 0)], none⟩, ⟨none, .store 4 (.tmp 3) (.tmp 19), none⟩]) (.seq (.region [⟨some 20, .fld 0 (.tmp 1), none⟩, ⟨some 21, .fld 2 (.tmp 20), none⟩,
    ⟨some 22, .load false 1 (.tmp 21), none⟩, ⟨some 23, .len (.tmp 22), none⟩, ⟨some 24, .mv (.const (.int .i64 0)), none⟩]) (.block 0 (.loop (.seq (.region [⟨some 25, .bin .lss
    (.tmp 24) (.tmp 23), none⟩]) (.seq (.cond (.tmp 25) .skip (.exit 0)) (.seq (.block 1 (.seq (.region [⟨some 26, .mv (.tmp 24), none⟩, ⟨some 27, .idx 3 (.tmp 22) (.tmp 24), none⟩,
    ⟨some 28, .load true 3 (.tmp 27), none⟩, ⟨some 5, .alloc [(.int .i64 0), (.int .i64 0), (.int .i64 0)], none⟩, ⟨some 4, .mv (.tmp 26), none⟩, ⟨none, .store 3 (.tmp 5) (.tmp 28),
    none⟩]) (.seq (.regionD [⟨some 29, .fld 0 (.tmp 3), none⟩, ⟨some 30, .fld 0 (.tmp 29), none⟩, ⟨some 31, .load false 1 (.tmp 30), none⟩, ⟨some 32, .fld 2 (.tmp 5), none⟩, ⟨some
    33, .load false 1 (.tmp 32), none⟩, ⟨some 34, .fld 3 (.tmp 1), none⟩, ⟨some 35, .load false 1 (.tmp 34), none⟩, ⟨some 36, .mv (.tmp 4), none⟩, ⟨some 37, .idx 2 (.tmp 35) (.tmp
    36), none⟩, ⟨some 38, .fld 0 (.tmp 37), none⟩, ⟨some 39, .load false 1 (.tmp 38), none⟩, ⟨some 40, .bin .mul (.tmp 33) (.tmp 39), none⟩, ⟨some 41, .bin .add (.tmp 31) (.tmp 40),
    none⟩, ⟨some 42, .fld 0 (.tmp 3), none⟩, ⟨some 43, .fld 0 (.tmp 42), none⟩, ⟨none, .store 1 (.tmp 43) (.tmp 41), none⟩] [0, 1, 3, 0, 8, 0, 32, 0, 224, 480, 992, 2040, 4095,
    8191, 16383, 32767] [0, 1, 2, 3, 4, 5, 6, 7, 8, 9, 10, 11, 12, 13, 14, 15]) (.seq (.regionD [⟨some 44, .fld 0 (.tmp 3), none⟩, ⟨some 45, .fld 1 (.tmp 44), none⟩, ⟨some 46, .load
    false 1 (.tmp 45), none⟩, ⟨some 47, .fld 2 (.tmp 5), none⟩, ⟨some 48, .load false 1 (.tmp 47), none⟩, ⟨some 49, .fld 3 (.tmp 1), none⟩, ⟨some 50, .load false 1 (.tmp 49), none⟩,
    ⟨some 51, .mv (.tmp 4), none⟩, ⟨some 52, .idx 2 (.tmp 50) (.tmp 51), none⟩, ⟨some 53, .fld 1 (.tmp 52), none⟩, ⟨some 54, .load false 1 (.tmp 53), none⟩, ⟨some 55, .bin .mul
    (.tmp 48) (.tmp 54), none⟩, ⟨some 56, .bin .add (.tmp 46) (.tmp 55), none⟩, ⟨some 57, .fld 0 (.tmp 3), none⟩, ⟨some 58, .fld 1 (.tmp 57), none⟩, ⟨none, .store 1 (.tmp 58) (.tmp
    56), none⟩] [0, 1, 3, 0, 8, 0, 32, 0, 224, 480, 992, 2040, 4095, 8191, 16383, 32767] [0, 1, 2, 3, 4, 5, 6, 7, 8, 9, 10, 11, 12, 13, 14, 15]) (.seq (.regionD [⟨some 59, .fld 2
    (.tmp 3), none⟩, ⟨some 60, .load false 1 (.tmp 59), none⟩, ⟨some 61, .fld 1 (.tmp 5), none⟩, ⟨some 62, .load false 1 (.tmp 61), none⟩, ⟨some 63, .bin .add (.tmp 60) (.tmp 62),
    none⟩, ⟨some 64, .fld 0 (.tmp 5), none⟩, ⟨some 65, .load false 1 (.tmp 64), none⟩, ⟨some 66, .fld 2 (.tmp 3), none⟩, ⟨none, .store 1 (.tmp 66) (.tmp 63), none⟩, ⟨some 67, .fld 3
    (.tmp 3), none⟩, ⟨none, .store 1 (.tmp 67) (.tmp 65), none⟩] [0, 1, 0, 4, 15, 0, 32, 31, 159, 511, 1023] [0, 1, 2, 3, 4, 5, 6, 7, 8, 9, 10]) (.seq (.region [⟨some 68, .mv (.tmp
    0), none⟩, ⟨some 69, .mv (.tmp 4), none⟩, ⟨some 70, .load true 4 (.tmp 3), none⟩, ⟨some 71, .call (.tmp 68) [(.tmp 69), (.tmp 70)], none⟩, ⟨some 72, .un .not (.tmp 71), none⟩])
    (.cond (.tmp 72) .ret .skip))))))) (.region [⟨some 73, .bin .add (.tmp 24) (.const (.int .i64 1)), none⟩, ⟨some 24, .mv (.tmp 73), none⟩]))))))))
theorem low208 : lowF Tryz.prog [] Tryz.f208 = some (74, lc208.strip, []) := by kernel_rfl
theorem fn208 : FnOk Tryz.prog 208 74 lc208 [] := ⟨Tryz.call208, [], _, Tryz.func208, low208⟩
/-- moonpool/cable.open$1 -/
def lc209 : LCode :=
  (.seq (.region [⟨some 4, .mv (.const (.int .i64 0)), none⟩]) (.seq (.region [⟨some 5, .mv (.tmp 1), none⟩, ⟨some 6, .call (.func 210) [(.tmp 5)], none⟩, ⟨some 7, .call (.func 125)
    [(.tmp 6), (.const (.int .i64 2))], none⟩, ⟨some 4, .mv (.tmp 7), none⟩]) .ret))
theorem low209 : lowF Tryz.prog [] Tryz.f209 = some (8, lc209.strip, [.tmp 4]) := by kernel_rfl
theorem fn209 : FnOk Tryz.prog 209 8 lc209 [.tmp 4] := ⟨Tryz.call209, [], _, Tryz.func209, low209⟩
/-- moonpool/cable.isCurrent -/
def lc210 : LCode :=
  (.seq (.region [⟨some 2, .mv (.const (.bool false)), none⟩]) (.seq (.region [⟨some 3, .mv (.tmp 0), none⟩, ⟨some 4, .call (.func 187) [(.tmp 3), (.const (.int .i64 50))], none⟩,
    ⟨some 2, .mv (.tmp 4), none⟩]) .ret))
theorem low210 : lowF Tryz.prog [] Tryz.f210 = some (5, lc210.strip, [.tmp 2]) := by kernel_rfl
theorem fn210 : FnOk Tryz.prog 210 5 lc210 [.tmp 2] := ⟨Tryz.call210, [], _, Tryz.func210, low210⟩
/-- moonpool/cable.each[moonpool/api.CableReading] -/
def lc211 : LCode :=
  (.seq (.region [⟨some 4, .mv (.const (.int .i64 0)), none⟩, ⟨some 5, .mv (.const (.int .i64 0)), none⟩]) (.seq (.seq (.region [⟨some 9, .mv (.tmp 0), none⟩, ⟨some 10, .len (.tmp
    9), none⟩, ⟨some 11, .mv (.const (.int .i64 0)), none⟩]) (.block 0 (.loop (.seq (.region [⟨some 12, .bin .lss (.tmp 11) (.tmp 10), none⟩]) (.seq (.cond (.tmp 12) .skip (.exit
    0)) (.seq (.block 1 (.seq (.region [⟨some 13, .mv (.tmp 11), none⟩, ⟨some 14, .idx 3 (.tmp 9) (.tmp 11), none⟩, ⟨some 15, .load true 3 (.tmp 14), none⟩, ⟨some 7, .alloc [(.int
    .i64 0), (.int .i64 0), (.int .i64 0)], none⟩, ⟨some 6, .mv (.tmp 13), none⟩, ⟨none, .store 3 (.tmp 7) (.tmp 15), none⟩]) (.seq (.region [⟨some 16, .mv (.tmp 1), none⟩, ⟨some
    17, .mv (.tmp 6), none⟩, ⟨some 18, .load true 3 (.tmp 7), none⟩, ⟨some 19, .call (.tmp 16) [(.tmp 17), (.tmp 18)], none⟩, ⟨some 8, .mv (.tmp 19), none⟩]) (.seq (.region [⟨some
    20, .mv (.tmp 8), none⟩, ⟨some 21, .bin .neq (.tmp 20) (.const (.int .i64 0)), none⟩]) (.cond (.tmp 21) (.seq (.region [⟨some 22, .mv (.tmp 6), none⟩, ⟨some 23, .mv (.tmp 8),
    none⟩, ⟨some 4, .mv (.tmp 22), none⟩, ⟨some 5, .mv (.tmp 23), none⟩]) .ret) .skip))))) (.region [⟨some 24, .bin .add (.tmp 11) (.const (.int .i64 1)), none⟩, ⟨some 11, .mv (.tmp
    24), none⟩]))))))) (.seq (.region [⟨some 4, .mv (.const (.int .i64 0)), none⟩, ⟨some 5, .mv (.const (.int .i64 0)), none⟩]) .ret)))
theorem low211 : lowF Tryz.prog [] Tryz.f211 = some (25, lc211.strip, [.tmp 4, .tmp 5]) := by kernel_rfl
theorem fn211 : FnOk Tryz.prog 211 25 lc211 [.tmp 4, .tmp 5] := ⟨Tryz.call211, [], _, Tryz.func211, low211⟩
/-- moonpool/cable.openReadings$1 -/
def lc212 : LCode :=
  (.seq (.region [⟨some 4, .box (.tmp 1), none⟩, ⟨some 5, .mv (.const (.int .i64 0)), none⟩]) (.seq (.regionD [⟨some 6, .fld 0 (.tmp 4), none⟩, ⟨some 7, .load false 1 (.tmp 6),
    none⟩, ⟨some 8, .fld 2 (.tmp 2), none⟩, ⟨some 9, .load false 1 (.tmp 8), none⟩, ⟨some 10, .len (.tmp 9), none⟩, ⟨some 11, .bin .sub (.tmp 10) (.const (.int .i64 1)), none⟩,
    ⟨some 12, .call (.func 128) [(.tmp 7), (.const (.int .i64 0)), (.tmp 11)], none⟩, ⟨some 13, .call (.func 125) [(.tmp 12), (.const (.int .i64 6))], none⟩, ⟨some 14, .fld 1 (.tmp
    4), none⟩, ⟨some 15, .fld 0 (.tmp 14), none⟩, ⟨some 16, .load false 1 (.tmp 15), none⟩, ⟨some 17, .call (.func 187) [(.tmp 16), (.const (.int .i64 20000))], none⟩, ⟨some 18, .mv
    (.tmp 17), none⟩, ⟨some 19, .fld 1 (.tmp 4), some (18, true)⟩, ⟨some 20, .fld 1 (.tmp 19), some (18, true)⟩, ⟨some 21, .load false 1 (.tmp 20), some (18, true)⟩, ⟨some 22, .call
    (.func 187) [(.tmp 21), (.const (.int .i64 20000))], some (18, true)⟩, ⟨some 23, .pick (.tmp 18) (.tmp 22) (.const (.bool false)), none⟩, ⟨some 24, .call (.func 125) [(.tmp 23),
    (.const (.int .i64 2))], none⟩, ⟨some 25, .fld 1 (.tmp 4), none⟩, ⟨some 26, .fld 0 (.tmp 25), none⟩, ⟨some 27, .load false 1 (.tmp 26), none⟩, ⟨some 28, .fld 1 (.tmp 4), none⟩,
    ⟨some 29, .fld 1 (.tmp 28), none⟩, ⟨some 30, .load false 1 (.tmp 29), none⟩, ⟨some 31, .bin .leq (.tmp 27) (.tmp 30), none⟩, ⟨some 32, .call (.func 125) [(.tmp 31), (.const
    (.int .i64 9))], none⟩, ⟨some 33, .lit false 34 1 [(.tmp 13), (.tmp 24), (.tmp 32)], none⟩, ⟨some 34, .call (.func 124) [(.tmp 33)], none⟩, ⟨some 5, .mv (.tmp 34), none⟩] [0, 1,
    0, 4, 12, 28, 63, 127, 0, 256, 768, 2047, 4095, 8191, 16383, 32767, 65535, 131071, 262143, 0, 524288, 1572864, 0, 4194304, 12582912, 33030144, 67108863, 134217727, 268435455,
    536870911] [0, 1, 2, 3, 4, 5, 6, 7, 8, 9, 10, 11, 12, 13, 14, 15, 16, 17, 18, 19, 20, 21, 22, 23, 24, 25, 26, 27, 28, 29]) .ret))
theorem low212 : lowF Tryz.prog [] Tryz.f212 = some (35, lc212.strip, [.tmp 5]) := by kernel_rfl
theorem fn212 : FnOk Tryz.prog 212 35 lc212 [.tmp 5] := ⟨Tryz.call212, [], _, Tryz.func212, low212⟩
/-- moonpool/cable.apart -/
def lc213 : LCode :=
  (.seq (.region [⟨some 2, .box (.tmp 0), none⟩, ⟨some 3, .box (.tmp 1), none⟩, ⟨some 4, .mv (.const (.int .i64 0)), none⟩]) (.seq (.region [⟨some 5, .fld 0 (.tmp 2), none⟩, ⟨some
    6, .load false 1 (.tmp 5), none⟩, ⟨some 7, .fld 1 (.tmp 3), none⟩, ⟨some 8, .load false 1 (.tmp 7), none⟩, ⟨some 9, .bin .sub (.tmp 6) (.tmp 8), none⟩, ⟨some 10, .fld 0 (.tmp
    3), none⟩, ⟨some 11, .load false 1 (.tmp 10), none⟩, ⟨some 12, .fld 1 (.tmp 2), none⟩, ⟨some 13, .load false 1 (.tmp 12), none⟩, ⟨some 14, .bin .sub (.tmp 11) (.tmp 13), none⟩,
    ⟨some 15, .mm true [(.const (.int .i64 0)), (.tmp 9), (.tmp 14)], none⟩, ⟨some 4, .mv (.tmp 15), none⟩]) .ret))
theorem low213 : lowF Tryz.prog [] Tryz.f213 = some (16, lc213.strip, [.tmp 4]) := by kernel_rfl
theorem fn213 : FnOk Tryz.prog 213 16 lc213 [.tmp 4] := ⟨Tryz.call213, [], _, Tryz.func213, low213⟩
def ra214 : LCode :=
  (.region [⟨some 4, .alloc [(.int .i64 0), (.int .i64 0), (.int .i64 0), (.int .i64 0)], none⟩, ⟨none, .store 4 (.tmp 4) (.tmp 8), none⟩])
def rb214 : LCode :=
  (.block 1 (.seq (.region [⟨some 9, .fld 2 (.tmp 4), none⟩, ⟨some 10, .load false 1 (.tmp 9), none⟩, ⟨some 11, .bin .leq (.tmp 10) (.const (.int .i64 0)), none⟩]) (.cond (.tmp 11)
    (.seq (.region [⟨none, .store 1 (.tmp 2) (.const (.int .i64 21)), none⟩]) .ret) .skip)))
/-- (moonpool/cable.line).slackErr -/
def lc214 : LCode :=
  (.seq (.region [⟨some 1, .box (.tmp 0), none⟩, ⟨some 2, .alloc [(.int .i64 0)], none⟩]) (.seq (.seq (.region [⟨some 5, .load true 4 (.tmp 1), none⟩, ⟨some 6, .call (.func 121)
    [(.tmp 5)], none⟩]) (.block 0 (.rangeFunc (.tmp 6) [7, 8] ra214 rb214))) (.seq (.region [⟨none, .store 1 (.tmp 2) (.const (.int .i64 0)), none⟩]) .ret)))
theorem low214 : lowF Tryz.prog [] Tryz.f214 = some (12, lc214.strip, [.cell 2 false 1]) := by kernel_rfl
theorem fn214 : FnOk Tryz.prog 214 12 lc214 [.cell 2 false 1] := ⟨Tryz.call214, [], _, Tryz.func214, low214⟩
/-- moonpool/cable.root -/
def lc215 : LCode :=
  (.seq (.region [⟨some 2, .mv (.const (.int .i64 0)), none⟩]) (.seq (.region [⟨some 3, .mv (.const (.int .i64 0)), none⟩]) (.seq (.seq (.region [⟨some 4, .mv (.const (.int .i64
    2147483648)), none⟩]) (.block 0 (.loop (.seq (.seq (.region [⟨some 5, .mv (.tmp 4), none⟩, ⟨some 6, .bin .gtr (.tmp 5) (.const (.int .i64 0)), none⟩]) (.cond (.tmp 6) .skip
    (.exit 0))) (.seq (.block 1 (.seq (.region [⟨some 9, .mv (.tmp 3), none⟩, ⟨some 10, .mv (.tmp 4), none⟩, ⟨some 11, .bin .or (.tmp 9) (.tmp 10), none⟩, ⟨some 12, .mv (.tmp 3),
    none⟩, ⟨some 13, .mv (.tmp 4), none⟩, ⟨some 14, .bin .or (.tmp 12) (.tmp 13), none⟩, ⟨some 15, .bin .mul (.tmp 11) (.tmp 14), none⟩, ⟨some 16, .mv (.tmp 0), none⟩, ⟨some 17,
    .bin .leq (.tmp 15) (.tmp 16), none⟩]) (.cond (.tmp 17) (.region [⟨some 18, .mv (.tmp 3), none⟩, ⟨some 19, .mv (.tmp 4), none⟩, ⟨some 20, .bin .or (.tmp 18) (.tmp 19), none⟩,
    ⟨some 3, .mv (.tmp 20), none⟩]) .skip))) (.region [⟨some 7, .mv (.tmp 4), none⟩, ⟨some 8, .bin .shr (.tmp 7) (.const (.int .u64 1)), none⟩, ⟨some 4, .mv (.tmp 8), none⟩]))))))
    (.seq (.region [⟨some 21, .mv (.tmp 3), none⟩, ⟨some 2, .mv (.tmp 21), none⟩]) .ret))))
theorem low215 : lowF Tryz.prog [] Tryz.f215 = some (22, lc215.strip, [.tmp 2]) := by kernel_rfl
theorem fn215 : FnOk Tryz.prog 215 22 lc215 [.tmp 2] := ⟨Tryz.call215, [], _, Tryz.func215, low215⟩
end Go.Pw

set_option linter.unusedVariables false
set_option maxHeartbeats 2000000
set_option maxRecDepth 100000
namespace Go.Pw
open Go Go.Proofs
end Go.Pw

set_option linter.unusedVariables false
set_option maxHeartbeats 2000000
set_option maxRecDepth 100000
namespace Go.Pw
open Go Go.Proofs
/-- moonpool/cable.each[moonpool/api.Range] -/
def lc260 : LCode :=
  (.seq (.region [⟨some 4, .mv (.const (.int .i64 0)), none⟩, ⟨some 5, .mv (.const (.int .i64 0)), none⟩]) (.seq (.seq (.region [⟨some 9, .mv (.tmp 0), none⟩, ⟨some 10, .len (.tmp
    9), none⟩, ⟨some 11, .mv (.const (.int .i64 0)), none⟩]) (.block 0 (.loop (.seq (.region [⟨some 12, .bin .lss (.tmp 11) (.tmp 10), none⟩]) (.seq (.cond (.tmp 12) .skip (.exit
    0)) (.seq (.block 1 (.seq (.region [⟨some 13, .mv (.tmp 11), none⟩, ⟨some 14, .idx 2 (.tmp 9) (.tmp 11), none⟩, ⟨some 15, .load true 2 (.tmp 14), none⟩, ⟨some 7, .alloc [(.int
    .i64 0), (.int .i64 0)], none⟩, ⟨some 6, .mv (.tmp 13), none⟩, ⟨none, .store 2 (.tmp 7) (.tmp 15), none⟩]) (.seq (.region [⟨some 16, .mv (.tmp 1), none⟩, ⟨some 17, .mv (.tmp 6),
    none⟩, ⟨some 18, .load true 2 (.tmp 7), none⟩, ⟨some 19, .call (.tmp 16) [(.tmp 17), (.tmp 18)], none⟩, ⟨some 8, .mv (.tmp 19), none⟩]) (.seq (.region [⟨some 20, .mv (.tmp 8),
    none⟩, ⟨some 21, .bin .neq (.tmp 20) (.const (.int .i64 0)), none⟩]) (.cond (.tmp 21) (.seq (.region [⟨some 22, .mv (.tmp 6), none⟩, ⟨some 23, .mv (.tmp 8), none⟩, ⟨some 4, .mv
    (.tmp 22), none⟩, ⟨some 5, .mv (.tmp 23), none⟩]) .ret) .skip))))) (.region [⟨some 24, .bin .add (.tmp 11) (.const (.int .i64 1)), none⟩, ⟨some 11, .mv (.tmp 24), none⟩])))))))
    (.seq (.region [⟨some 4, .mv (.const (.int .i64 0)), none⟩, ⟨some 5, .mv (.const (.int .i64 0)), none⟩]) .ret)))
theorem low260 : lowF Tryz.prog [] Tryz.f260 = some (25, lc260.strip, [.tmp 4, .tmp 5]) := by kernel_rfl
theorem fn260 : FnOk Tryz.prog 260 25 lc260 [.tmp 4, .tmp 5] := ⟨Tryz.call260, [], _, Tryz.func260, low260⟩
/-- moonpool/cable.CheckBox$1 -/
def lc261 : LCode :=
  (.seq (.region [⟨some 3, .box (.tmp 1), none⟩, ⟨some 4, .mv (.const (.int .i64 0)), none⟩]) (.seq (.regionD [⟨some 5, .fld 0 (.tmp 3), none⟩, ⟨some 6, .load false 1 (.tmp 5),
    none⟩, ⟨some 7, .call (.func 210) [(.tmp 6)], none⟩, ⟨some 8, .mv (.tmp 7), none⟩, ⟨some 9, .fld 1 (.tmp 3), some (8, true)⟩, ⟨some 10, .load false 1 (.tmp 9), some (8, true)⟩,
    ⟨some 11, .call (.func 210) [(.tmp 10)], some (8, true)⟩, ⟨some 12, .pick (.tmp 8) (.tmp 11) (.const (.bool false)), none⟩, ⟨some 13, .call (.func 125) [(.tmp 12), (.const (.int
    .i64 2))], none⟩, ⟨some 14, .fld 0 (.tmp 3), none⟩, ⟨some 15, .load false 1 (.tmp 14), none⟩, ⟨some 16, .fld 1 (.tmp 3), none⟩, ⟨some 17, .load false 1 (.tmp 16), none⟩, ⟨some
    18, .bin .leq (.tmp 15) (.tmp 17), none⟩, ⟨some 19, .call (.func 125) [(.tmp 18), (.const (.int .i64 9))], none⟩, ⟨some 20, .lit false 34 1 [(.tmp 13), (.tmp 19)], none⟩, ⟨some
    21, .call (.func 124) [(.tmp 20)], none⟩, ⟨some 4, .mv (.tmp 21), none⟩] [0, 1, 3, 7, 15, 31, 63, 127, 255, 0, 512, 0, 2048, 7680, 16383, 32767, 65535, 131071] [0, 1, 2, 3, 4,
    5, 6, 7, 8, 9, 10, 11, 12, 13, 14, 15, 16, 17]) .ret))
theorem low261 : lowF Tryz.prog [] Tryz.f261 = some (22, lc261.strip, [.tmp 4]) := by kernel_rfl
theorem fn261 : FnOk Tryz.prog 261 22 lc261 [.tmp 4] := ⟨Tryz.call261, [], _, Tryz.func261, low261⟩
end Go.Pw

set_option linter.unusedVariables false
set_option maxHeartbeats 2000000
set_option maxRecDepth 100000
namespace Go.Pw
open Go Go.Proofs
end Go.Pw

set_option linter.unusedSimpArgs false
set_option linter.unusedVariables false
namespace Go.Pw
set_option maxRecDepth 2000
open Go Go.Proofs A1 A2 A3 A4
instance : Mix Tryz.prog := ⟨⟨by kernel_rfl⟩⟩
theorem C46 {n lo hi : Int} : PFD Tryz.prog 46 [vi .i64 n, vi .i64 lo, vi .i64 hi] (vbl (decide (lo ≤ n ∧ n ≤ hi))) := by
  refine pi1 fn46 ?_
  (repeat' first | (refine Owe.same ?_; first | refine Owe.o ?_ | refine Owe.mk ?_ ?_) | (refine Fork.same ?_; (first | refine fkD ?_ ?_ | refine fkN ?_ ?_ | refine fkM ?_ ?_) <;> intro h) | refine MvQ.stay ?_)
  · (refine rqK rfl ?_; (repeat' first | exact rfl | (refine qS ?_; constructor))); simp [*]
  · (refine rqK rfl ?_; (repeat' first | exact rfl | (refine qS ?_; constructor))); simp only [decide_eq_false_iff_not]; omega
theorem C128 {n lo hi : Int} : PFD Tryz.prog 128 [vi .i64 n, vi .i64 lo, vi .i64 hi] (vbl (decide (lo ≤ n ∧ n ≤ hi))) := by
  refine pi1 fn128 ?_
  (repeat' first | (refine Owe.same ?_; first | refine Owe.o ?_ | refine Owe.mk ?_ ?_) | (refine Fork.same ?_; (first | refine fkD ?_ ?_ | refine fkN ?_ ?_ | refine fkM ?_ ?_) <;> intro h) | refine MvQ.stay ?_)
  · (refine rqK rfl ?_; (repeat' first | exact rfl | (refine qS ?_; constructor))); simp [*]
  · (refine rqK rfl ?_; (repeat' first | exact rfl | (refine qS ?_; constructor))); simp only [decide_eq_false_iff_not]; omega
theorem C187 {n m : Int} : (0 ≤ m ∧ m < 4611686018427387904) → PFD Tryz.prog 187 [vi .i64 n, vi .i64 m] (vbl (decide (-m ≤ n ∧ n ≤ m))) := fun h => by
  refine pi1 fn187 ?_
  (repeat' first | (refine Owe.same ?_; first | refine Owe.o ?_ | refine Owe.mk ?_ ?_) | (refine Fork.same ?_; (first | refine fkD ?_ ?_ | refine fkN ?_ ?_ | refine fkM ?_ ?_) <;> intro h) | ((first | refine OpsL.same ?_ | refine OpsDL.same ?_); first | refine pK C128 rfl rfl ?_) | refine MvQ.stay ?_)
  (refine rqK rfl ?_; (repeat' first | exact rfl | (refine qS ?_; constructor)))
theorem C210 {n : Int} : PFD Tryz.prog 210 [vi .i64 n] (vbl (decide (-50 ≤ n ∧ n ≤ 50))) := by
  refine pi1 fn210 ?_
  (repeat' first | (refine Owe.same ?_; first | refine Owe.o ?_ | refine Owe.mk ?_ ?_) | (refine Fork.same ?_; (first | refine fkD ?_ ?_ | refine fkN ?_ ?_ | refine fkM ?_ ?_) <;> intro h) | ((first | refine OpsL.same ?_ | refine OpsDL.same ?_); first | refine pK C187 rfl rfl ?_) | refine MvQ.stay ?_)
  (refine rqK rfl ?_; (repeat' first | exact rfl | (refine qS ?_; constructor)))
theorem C195 {n : Int} : PFD Tryz.prog 195 [vi .i64 n] (vbl (decide (-50 ≤ n ∧ n ≤ 50))) := by
  refine pi1 fn195 ?_
  (repeat' first | (refine Owe.same ?_; first | refine Owe.o ?_ | refine Owe.mk ?_ ?_) | (refine Fork.same ?_; (first | refine fkD ?_ ?_ | refine fkN ?_ ?_ | refine fkM ?_ ?_) <;> intro h) | ((first | refine OpsL.same ?_ | refine OpsDL.same ?_); first | refine pK C46 rfl rfl ?_) | refine MvQ.stay ?_)
  (refine rqK rfl ?_; (repeat' first | exact rfl | (refine qS ?_; constructor)))
theorem C54 {n : Int} : (-4611686018427387904 ≤ n ∧ n ≤ 4611686018427387904) → PFD Tryz.prog 54 [vi .i64 n] (vi .i64 (max n (-n))) := fun h => by
  refine pi1 fn54 ?_
  (repeat' first | (refine Owe.same ?_; first | refine Owe.o ?_ | refine Owe.mk ?_ ?_) | (refine Fork.same ?_; (first | refine fkD ?_ ?_ | refine fkN ?_ ?_ | refine fkM ?_ ?_) <;> intro h) | refine MvQ.stay ?_)
  (refine rqK rfl ?_; (repeat' first | exact rfl | (refine qS ?_; constructor)))
theorem C125 {b : Bool} {e : Int} : PFD Tryz.prog 125 [vbl b, vi .i64 e] (vi .i64 (unb b e)) := by
  refine pi1 fn125 ?_
  (repeat' first | (refine Owe.same ?_; first | refine Owe.o ?_ | refine Owe.mk ?_ ?_) | (refine Fork.same ?_; (first | refine fkD ?_ ?_ | refine fkN ?_ ?_ | refine fkM ?_ ?_) <;> intro h) | refine MvQ.stay ?_)
  · (refine rqK rfl ?_; (repeat' first | exact rfl | (refine qS ?_; constructor))); simp [unb, *]
  · (refine rqK rfl ?_; (repeat' first | exact rfl | (refine qS ?_; constructor))); simp [unb, *]
theorem C124 {l : List Int} : l.length < 4611686018427387904 → PFD Tryz.prog 124 [.c (ints l)] (vi .i64 (fstE l)) := fun hl => by
  refine pi1 fn124 ?_
  (repeat' first | (refine Owe.same ?_; first | refine Owe.o ?_ | refine Owe.mk ?_ ?_) | (refine Fork.same ?_; (first | refine fkD ?_ ?_ | refine fkN ?_ ?_ | refine fkM ?_ ?_) <;> intro h) | refine MvQ.stay ?_)
  refine Sat.lp0 (fun k : Nat => [(7, vi .i64 k), (6, vi .i64 l.length), (5, .c (ints l))]) (fun k => k ≤ l.length ∧ fstE l = fstE (l.drop k)) (fun k => l.length - k) 0 ⟨Nat.zero_le _, rfl⟩ (by ((first | refine qen ?_ | refine qvs ?_ | refine qeq ?_ | refine qst ?_ | refine qv ?_ | refine qc ?_ | refine qe ?_ | refine qcs ?_ | skip); (repeat' first | exact rfl | (refine qS ?_; constructor)))) ?_
  intro k hk
  (repeat' first | (refine Owe.same ?_; first | refine Owe.o ?_ | refine Owe.mk ?_ ?_) | (refine Fork.same ?_; (first | refine fkD ?_ ?_ | refine fkN ?_ ?_ | refine fkM ?_ ?_) <;> intro h) | refine MvQ.stay ?_)
  · simp only [Int.toNat_natCast] at h
    (refine rqK rfl ?_; (repeat' first | exact rfl | (refine qS ?_; constructor)))
    rw [hk.2, fstE_drop l k (by omega), if_neg h, Int.toNat_natCast]
  · simp only [Int.toNat_natCast] at h
    refine again0 (k + 1) ⟨by omega, ?_⟩ (by omega) (by ((first | refine qen ?_ | refine qvs ?_ | refine qeq ?_ | refine qst ?_ | refine qv ?_ | refine qc ?_ | refine qe ?_ | refine qcs ?_ | skip); (repeat' first | exact rfl | (refine qS ?_; constructor))))
    rw [hk.2, fstE_drop l k (by omega), if_pos h]
  · (refine rqK rfl ?_; (repeat' first | exact rfl | (refine qS ?_; constructor)))
    rw [hk.2, List.drop_of_length_le (by omega)]; rfl
end Go.Pw

set_option linter.unusedSimpArgs false
set_option linter.unusedVariables false
namespace Go.Pw
set_option maxRecDepth 2000
open Go Go.Proofs A1 A2 A3 A4
theorem C32 {l : List Int} : l.length ≤ 1000000 → PFD Tryz.prog 32 [.c (ints l)] (.c (ints l)) := fun h => by
  refine pi1 fn32 ?_
  (repeat' first | (refine Owe.same ?_; first | refine Owe.o ?_ | refine Owe.mk ?_ ?_) | (refine Fork.same ?_; (first | refine fkD ?_ ?_ | refine fkN ?_ ?_ | refine fkM ?_ ?_) <;> intro h) | refine MvQ.stay ?_)
  (refine rqK rfl ?_; (repeat' first | exact rfl | (refine qS ?_; constructor)))
theorem C13 {l : List (Int × Int)} : l.length ≤ 1000000 → PFD Tryz.prog 13 [.c (prs l)] (.c (prs l)) := fun h => by
  refine pi1 fn13 ?_
  (repeat' first | (refine Owe.same ?_; first | refine Owe.o ?_ | refine Owe.mk ?_ ?_) | (refine Fork.same ?_; (first | refine fkD ?_ ?_ | refine fkN ?_ ?_ | refine fkM ?_ ?_) <;> intro h) | refine MvQ.stay ?_)
  (refine rqK rfl ?_; (repeat' first | exact rfl | (refine qS ?_; constructor)))
theorem C11 {x z : Int} {l : List (Int × Int × Int)} : l.length ≤ 1000000 → PFD Tryz.prog 11 [.agg [int x, int z, trs l]] (.agg [int x, int z, trs l]) := fun h => by
  refine pi1 fn11 ?_
  (repeat' first | (refine Owe.same ?_; first | refine Owe.o ?_ | refine Owe.mk ?_ ?_) | (refine Fork.same ?_; (first | refine fkD ?_ ?_ | refine fkN ?_ ?_ | refine fkM ?_ ?_) <;> intro h) | refine MvQ.stay ?_)
  (refine rqK rfl ?_; (repeat' first | exact rfl | (refine qS ?_; constructor)))
end Go.Pw

set_option linter.unusedSimpArgs false
set_option linter.unusedVariables false
namespace Go.Pw
set_option maxRecDepth 2000
open Go Go.Proofs A1 A2 A3 A4
theorem C91 {l m : List (Int × Int)} : l.length < 4611686018427387904 → PFD Tryz.prog 91 [.c (prs l), .c (prs m)] (vbl (decide (l = m))) := fun hl => by
  refine pi1 fn91 ?_
  (repeat' first | (refine Owe.same ?_; first | refine Owe.o ?_ | refine Owe.mk ?_ ?_) | (refine Fork.same ?_; (first | refine fkD ?_ ?_ | refine fkN ?_ ?_ | refine fkM ?_ ?_) <;> intro h) | refine MvQ.stay ?_)
  · (refine rqK rfl ?_; (repeat' first | exact rfl | (refine qS ?_; constructor))); simp only [decide_eq_false_iff_not]; intro he; subst he; omega
  · have hlm : l.length = m.length := by omega
    clear h
    refine Sat.lp0 (fun k : Nat => [(5, vi .i64 k), (0, .c (prs l)), (1, .c (prs m))]) (fun k => k ≤ l.length ∧ ∀ i, i < k → l.getD i (0, 0) = m.getD i (0, 0)) (fun k => l.length - k) 0 ⟨Nat.zero_le _, fun i hi => by omega⟩ (by ((first | refine qen ?_ | refine qvs ?_ | refine qeq ?_ | refine qst ?_ | refine qv ?_ | refine qc ?_ | refine qe ?_ | refine qcs ?_ | skip); (repeat' first | exact rfl | (refine qS ?_; constructor)))) ?_
    intro k hk
    (repeat' first | (refine Owe.same ?_; first | refine Owe.o ?_ | refine Owe.mk ?_ ?_) | (refine Fork.same ?_; (first | refine fkD ?_ ?_ | refine fkN ?_ ?_ | refine fkM ?_ ?_) <;> intro h) | refine MvQ.stay ?_)
    · simp only [Int.toNat_natCast, pair_eq, Bool.not_eq_true', decide_eq_false_iff_not] at h
      (refine rqK rfl ?_; (repeat' first | exact rfl | (refine qS ?_; constructor))); simp only [decide_eq_false_iff_not]; intro he; subst he; exact h rfl
    · simp only [Int.toNat_natCast, pair_eq, Bool.not_eq_false', decide_eq_true_eq] at h
      refine again0 (k + 1) ⟨by omega, fun i hi => ?_⟩ (by omega) (by ((first | refine qen ?_ | refine qvs ?_ | refine qeq ?_ | refine qst ?_ | refine qv ?_ | refine qc ?_ | refine qe ?_ | refine qcs ?_ | skip); (repeat' first | exact rfl | (refine qS ?_; constructor))))
      rcases Nat.lt_succ_iff_lt_or_eq.1 hi with h3 | rfl
      · exact hk.2 i h3
      · exact h
    · (refine rqK rfl ?_; (repeat' first | exact rfl | (refine qS ?_; constructor))); simp only [decide_eq_true_eq]; exact ext_getD (0, 0) hlm fun i hi => hk.2 i (by omega)
theorem C21 {l m : List (Int × Int)} : l.length < 4611686018427387904 → PFD Tryz.prog 21 [.c (prs l), .c (prs m)] (vbl (decide (l = m))) := fun hl => by
  refine pi1 fn21 ?_
  (repeat' first | (refine Owe.same ?_; first | refine Owe.o ?_ | refine Owe.mk ?_ ?_) | (refine Fork.same ?_; (first | refine fkD ?_ ?_ | refine fkN ?_ ?_ | refine fkM ?_ ?_) <;> intro h) | refine MvQ.stay ?_)
  · (refine rqK rfl ?_; (repeat' first | exact rfl | (refine qS ?_; constructor))); simp only [decide_eq_false_iff_not]; intro he; subst he; omega
  · have hlm : l.length = m.length := by omega
    clear h
    refine Sat.lp0 (fun k : Nat => [(5, vi .i64 k), (0, .c (prs l)), (1, .c (prs m))]) (fun k => k ≤ l.length ∧ ∀ i, i < k → l.getD i (0, 0) = m.getD i (0, 0)) (fun k => l.length - k) 0 ⟨Nat.zero_le _, fun i hi => by omega⟩ (by ((first | refine qen ?_ | refine qvs ?_ | refine qeq ?_ | refine qst ?_ | refine qv ?_ | refine qc ?_ | refine qe ?_ | refine qcs ?_ | skip); (repeat' first | exact rfl | (refine qS ?_; constructor)))) ?_
    intro k hk
    (repeat' first | (refine Owe.same ?_; first | refine Owe.o ?_ | refine Owe.mk ?_ ?_) | (refine Fork.same ?_; (first | refine fkD ?_ ?_ | refine fkN ?_ ?_ | refine fkM ?_ ?_) <;> intro h) | refine MvQ.stay ?_)
    · simp only [Int.toNat_natCast, pair_eq, Bool.not_eq_true', decide_eq_false_iff_not] at h
      (refine rqK rfl ?_; (repeat' first | exact rfl | (refine qS ?_; constructor))); simp only [decide_eq_false_iff_not]; intro he; subst he; exact h rfl
    · simp only [Int.toNat_natCast, pair_eq, Bool.not_eq_false', decide_eq_true_eq] at h
      refine again0 (k + 1) ⟨by omega, fun i hi => ?_⟩ (by omega) (by ((first | refine qen ?_ | refine qvs ?_ | refine qeq ?_ | refine qst ?_ | refine qv ?_ | refine qc ?_ | refine qe ?_ | refine qcs ?_ | skip); (repeat' first | exact rfl | (refine qS ?_; constructor))))
      rcases Nat.lt_succ_iff_lt_or_eq.1 hi with h3 | rfl
      · exact hk.2 i h3
      · exact h
    · (refine rqK rfl ?_; (repeat' first | exact rfl | (refine qS ?_; constructor))); simp only [decide_eq_true_eq]; exact ext_getD (0, 0) hlm fun i hi => hk.2 i (by omega)
end Go.Pw

set_option linter.unusedSimpArgs false
set_option linter.unusedVariables false
namespace Go.Pw
set_option maxRecDepth 2000
open Go Go.Proofs A1 A2 A3 A4
theorem C122 {n : Int} : (0 ≤ n ∧ n ≤ 1152921504606846976) → PFD Tryz.prog 122 [vi .i64 n] (vi .i64 (isq n)) := fun hn => by
  refine pi1 fn122 ?_
  (repeat' first | (refine Owe.same ?_; first | refine Owe.o ?_ | refine Owe.mk ?_ ?_) | (refine Fork.same ?_; (first | refine fkD ?_ ?_ | refine fkN ?_ ?_ | refine fkM ?_ ?_) <;> intro h) | refine MvQ.stay ?_)
  refine Sat.lp0 (fun p : Nat × Int => [(0, vi .i64 n), (3, vi .i64 p.2), (4, vi .i64 (bitI p.1))]) (fun p => p.1 ≤ 31 ∧ 0 ≤ p.2 ∧ p.2 + 2 ^ p.1 ≤ 2147483648 ∧ isq n = rt p.1 p.2 n) (fun p => p.1) (31, 0) ⟨by simp, by simp, by simp, rfl⟩ (by ((first | refine qen ?_ | refine qvs ?_ | refine qeq ?_ | refine qst ?_ | refine qv ?_ | refine qc ?_ | refine qe ?_ | refine qcs ?_ | skip); (repeat' first | exact rfl | (refine qS ?_; constructor)))) ?_
  rintro ⟨k, r⟩ ⟨hk, hr, hb, he⟩
  simp only at hk hr hb he
  cases k with
  | zero =>
    refine Fork.dec (fun h => absurd h (by simp [bitI])) (fun h => ?_)
    (repeat' first | (refine Owe.same ?_; first | refine Owe.o ?_ | refine Owe.mk ?_ ?_) | (refine Fork.same ?_; (first | refine fkD ?_ ?_ | refine fkN ?_ ?_ | refine fkM ?_ ?_) <;> intro h) | refine MvQ.stay ?_)
    (refine rqK rfl ?_; (repeat' first | exact rfl | (refine qS ?_; constructor))); rw [he]; rfl
  | succ k =>
    have hp : (0 : Int) < 2 ^ k := Int.pow_pos (by omega)
    have e : (2 : Int) ^ (k + 1) = 2 ^ k + 2 ^ k := by rw [Int.pow_succ]; omega
    have e1 : bitI (k + 1) = 2 ^ k := rfl
    have hm := mbd (A := 2147483648) (B := 2147483648) (a := r + 2 ^ k) (b := r + 2 ^ k) (by omega) (by omega)
    have hh := bitI_half k
    have h0 : -2147483648 ≤ bitI k ∧ bitI k ≤ 2147483648 := by
      cases k with
      | zero => simp [bitI]
      | succ k =>
        have h1 : (2 : Int) ^ (k + 1) = 2 ^ k + 2 ^ k := by rw [Int.pow_succ]; omega
        have h2 : (0 : Int) < 2 ^ k := Int.pow_pos (by omega)
        simp only [bitI]; omega
    simp only [e1] at *
    refine Fork.dec (fun h => ?_) (fun h => absurd hp h)
    (repeat' first | (refine Owe.same ?_; first | refine Owe.o ?_ | refine Owe.mk ?_ ?_) | (refine Fork.same ?_; (first | refine fkD ?_ ?_ | refine fkN ?_ ?_ | refine fkM ?_ ?_) <;> intro h) | refine MvQ.stay ?_)
    · refine again0 (k, r + 2 ^ k) ⟨by simp only; omega, by simp only; omega, by simp only; omega, ?_⟩ (by simp) (by ((first | refine qen ?_ | refine qvs ?_ | refine qeq ?_ | refine qst ?_ | refine qv ?_ | refine qc ?_ | refine qe ?_ | refine qcs ?_ | skip); (repeat' first | exact rfl | (refine qS ?_; constructor))); exact hh)
      rw [he, rt, if_pos h]
    · refine again0 (k, r) ⟨by simp only; omega, by simp only; omega, by simp only; omega, ?_⟩ (by simp) (by ((first | refine qen ?_ | refine qvs ?_ | refine qeq ?_ | refine qst ?_ | refine qv ?_ | refine qc ?_ | refine qe ?_ | refine qcs ?_ | skip); (repeat' first | exact rfl | (refine qS ?_; constructor))); exact hh)
      rw [he, rt, if_neg h]
theorem C50 {n : Int} : (0 ≤ n ∧ n ≤ 1152921504606846976) → PFD Tryz.prog 50 [vi .i64 n] (vi .i64 (isqU n)) := fun hn => by
  have h1 := isq_spec hn
  have h2 := isq_le hn
  have h3 := mbd (A := 1073741824) (B := 1073741824) (a := isq n) (b := isq n) (by omega) (by omega)
  refine pi1 fn50 ?_
  (repeat' first | (refine Owe.same ?_; first | refine Owe.o ?_ | refine Owe.mk ?_ ?_) | (refine Fork.same ?_; (first | refine fkD ?_ ?_ | refine fkN ?_ ?_ | refine fkM ?_ ?_) <;> intro h) | ((first | refine OpsL.same ?_ | refine OpsDL.same ?_); first | refine pK C122 rfl rfl ?_) | refine MvQ.stay ?_)
  · (refine rqK rfl ?_; (repeat' first | exact rfl | (refine qS ?_; constructor))); rw [isqU, if_pos h]
  · (refine rqK rfl ?_; (repeat' first | exact rfl | (refine qS ?_; constructor))); rw [isqU, if_neg h]
theorem C215 {n : Int} : (0 ≤ n ∧ n ≤ 1152921504606846976) → PFD Tryz.prog 215 [vi .i64 n] (vi .i64 (isq n)) := fun hn => by
  refine pi1 fn215 ?_
  (repeat' first | (refine Owe.same ?_; first | refine Owe.o ?_ | refine Owe.mk ?_ ?_) | (refine Fork.same ?_; (first | refine fkD ?_ ?_ | refine fkN ?_ ?_ | refine fkM ?_ ?_) <;> intro h) | refine MvQ.stay ?_)
  refine Sat.lp0 (fun p : Nat × Int => [(0, vi .i64 n), (3, vi .i64 p.2), (4, vi .i64 (bitI p.1))]) (fun p => p.1 ≤ 32 ∧ 0 ≤ p.2 ∧ p.2 * p.2 ≤ n ∧ (p.2 + 2 ^ p.1 ≤ 4294967296 ∧ ∃ q : Int, p.2 = 2 ^ p.1 * q) ∧ isq n = rt p.1 p.2 n) (fun p => p.1) (32, 0) ⟨Nat.le_refl _, Int.le_refl _, by omega, ⟨by decide, 0, rfl⟩, (rt32 hn).symm⟩ (by ((first | refine qen ?_ | refine qvs ?_ | refine qeq ?_ | refine qst ?_ | refine qv ?_ | refine qc ?_ | refine qe ?_ | refine qcs ?_ | skip); (repeat' first | exact rfl | (refine qS ?_; constructor)))) ?_
  rintro ⟨k, r⟩ ⟨hk, hr, hrn, ⟨hb, hd⟩, he⟩
  simp only at hk hr hrn hb hd he
  cases k with
  | zero =>
    refine Fork.dec (fun h => absurd h (by simp [bitI])) (fun h => ?_)
    (repeat' first | (refine Owe.same ?_; first | refine Owe.o ?_ | refine Owe.mk ?_ ?_) | (refine Fork.same ?_; (first | refine fkD ?_ ?_ | refine fkN ?_ ?_ | refine fkM ?_ ?_) <;> intro h) | refine MvQ.stay ?_)
    (refine rqK rfl ?_; (repeat' first | exact rfl | (refine qS ?_; constructor))); rw [he]; rfl
  | succ k =>
    have hp : (0 : Int) < 2 ^ k := Int.pow_pos (by omega)
    have e : (2 : Int) ^ (k + 1) = 2 ^ k + 2 ^ k := by rw [Int.pow_succ]; omega
    have e1 : bitI (k + 1) = 2 ^ k := rfl
    have hr1 : r ≤ 1073741824 := by
      rcases Int.lt_or_le 1073741824 r with h1 | h1
      · have := Int.mul_le_mul (show 1073741825 ≤ r by omega) (show 1073741825 ≤ r by omega) (by omega) hr; omega
      · exact h1
    have hk2 := two_le k 31 (by omega)
    have hor := or_bit (r := r) (k := k) (by omega) ⟨hr, by omega⟩ hd
    have hr2 : r + 2 ^ k ≤ 3037000499 := by
      rcases Nat.lt_or_ge k 31 with h | h
      · have := two_le k 30 (by omega); omega
      · have hk31 : k = 31 := by omega
        subst hk31
        obtain ⟨q, hq⟩ := hd
        omega
    have hm := mbd (A := 3037000499) (B := 3037000499) (a := r + 2 ^ k) (b := r + 2 ^ k) (by omega) (by omega)
    have hh : (2 ^ k : Int).fdiv (2 ^ min (Int.toNat 1) IntKind.i64.bits) = bitI k := bitI_half' k
    simp only [e1] at *
    refine Fork.dec (fun h => ?_) (fun h => absurd hp h)
    refine Owe.mk ?_ ?_
    · simp only [hor, R64]; omega
    (repeat' first | (refine Owe.same ?_; first | refine Owe.o ?_ | refine Owe.mk ?_ ?_) | (refine Fork.same ?_; (first | refine fkD ?_ ?_ | refine fkN ?_ ?_ | refine fkM ?_ ?_) <;> intro h) | refine MvQ.stay ?_)
    · rw [hor] at h
      refine again0 (k, r + 2 ^ k) ⟨by simp only; omega, by simp only; omega, h, ⟨by simp only; omega, ?_⟩, ?_⟩ (by simp) (by ((first | refine qen ?_ | refine qvs ?_ | refine qeq ?_ | refine qst ?_ | refine qv ?_ | refine qc ?_ | refine qe ?_ | refine qcs ?_ | skip); (repeat' first | exact rfl | (refine qS ?_; constructor))) <;> first | exact hor | exact hh)
      · obtain ⟨q, hq⟩ := hd
        exact ⟨2 * q + 1, by simp only; rw [Int.mul_add, ← Int.mul_assoc, ← Int.pow_succ, ← hq, Int.mul_one]⟩
      · rw [he, rt, if_pos h]
    · rw [hor] at h
      refine again0 (k, r) ⟨by simp only; omega, by simp only; omega, hrn, ⟨by simp only; omega, ?_⟩, ?_⟩ (by simp) (by ((first | refine qen ?_ | refine qvs ?_ | refine qeq ?_ | refine qst ?_ | refine qv ?_ | refine qc ?_ | refine qe ?_ | refine qcs ?_ | skip); (repeat' first | exact rfl | (refine qS ?_; constructor))); exact hh)
      · obtain ⟨q, hq⟩ := hd
        exact ⟨2 * q, by simp only; rw [← Int.mul_assoc, ← Int.pow_succ]; exact hq⟩
      · rw [he, rt, if_neg h]
end Go.Pw

set_option linter.unusedSimpArgs false
set_option linter.unusedVariables false
namespace Go.Pw
set_option maxRecDepth 2000
open Go Go.Proofs A1 A2 A3 A4
end Go.Pw

set_option linter.unusedSimpArgs false
set_option linter.unusedVariables false
namespace Go.Pw
set_option maxRecDepth 2000
open Go Go.Proofs A1 A2 A3 A4
theorem C126 {g : FuncId} {f : Int → Int} (hg : ∀ i x : Int, PFD Tryz.prog g [vi .i64 i, vi .i64 x] (vi .i64 (f x))) {l : List Int} : l.length ≤ 1000000 → PFD Tryz.prog 126 [.c (ints l), .c (.fn g [])] (.tup [vi .i64 (eachE f 0 l).1, vi .i64 (eachE f 0 l).2]) := fun hl => by
  refine pi2 fn126 ?_
  (repeat' first | (refine Owe.same ?_; first | refine Owe.o ?_ | refine Owe.mk ?_ ?_) | (refine Fork.same ?_; (first | refine fkD ?_ ?_ | refine fkN ?_ ?_ | refine fkM ?_ ?_) <;> intro h) | refine MvQ.stay ?_)
  refine Sat.lp0 (fun k : Nat => [(11, vi .i64 k), (10, vi .i64 l.length), (9, .c (ints l)), (1, .c (.fn g []))]) (fun k => k ≤ l.length ∧ eachE f 0 l = eachE f k (l.drop k)) (fun k => l.length - k) 0 ⟨Nat.zero_le _, rfl⟩ (by ((first | refine qen ?_ | refine qvs ?_ | refine qeq ?_ | refine qst ?_ | refine qv ?_ | refine qc ?_ | refine qe ?_ | refine qcs ?_ | skip); (repeat' first | exact rfl | (refine qS ?_; constructor)))) ?_
  intro k hk
  (repeat' first | (refine Owe.same ?_; first | refine Owe.o ?_ | refine Owe.mk ?_ ?_) | (refine Fork.same ?_; (first | refine fkD ?_ ?_ | refine fkN ?_ ?_ | refine fkM ?_ ?_) <;> intro h) | ((first | refine OpsL.same ?_ | refine OpsDL.same ?_); first | refine pK (hg _ _) rfl rfl ?_) | refine MvQ.stay ?_)
  · have e := eachE_drop f 0 l k (by omega)
    have h : ¬ f (l.getD k 0) = 0 := h
    rw [if_neg h, ← hk.2] at e
    (refine rqK rfl ?_; (repeat' first | exact rfl | (refine qS ?_; constructor))) <;> rw [e] <;> rfl
  · have e := eachE_drop f 0 l k (by omega)
    have h : f (l.getD k 0) = 0 := h
    rw [if_pos h, ← hk.2] at e
    exact again0 (k + 1) ⟨by omega, e⟩ (by omega) (by ((first | refine qen ?_ | refine qvs ?_ | refine qeq ?_ | refine qst ?_ | refine qv ?_ | refine qc ?_ | refine qe ?_ | refine qcs ?_ | skip); (repeat' first | exact rfl | (refine qS ?_; constructor))))
  · have e : eachE f 0 l = (0, 0) := by rw [hk.2, List.drop_of_length_le (by omega)]; rfl
    (refine rqK rfl ?_; (repeat' first | exact rfl | (refine qS ?_; constructor))) <;> rw [e]
theorem C188 {g : FuncId} {f : Lk → Int} (hg : ∀ (i : Int) (x : Lk), PFD Tryz.prog g [vi .i64 i, .agg [int x.1, int x.2.1, int x.2.2]] (vi .i64 (f x))) {l : List Lk} : l.length ≤ 1000000 → PFD Tryz.prog 188 [.c (trs l), .c (.fn g [])] (.tup [vi .i64 (eachE f 0 l).1, vi .i64 (eachE f 0 l).2]) := fun hl => by
  refine pi2 fn188 ?_
  (repeat' first | (refine Owe.same ?_; first | refine Owe.o ?_ | refine Owe.mk ?_ ?_) | (refine Fork.same ?_; (first | refine fkD ?_ ?_ | refine fkN ?_ ?_ | refine fkM ?_ ?_) <;> intro h) | refine MvQ.stay ?_)
  refine Sat.lp0 (fun k : Nat => [(11, vi .i64 k), (10, vi .i64 l.length), (9, .c (trs l)), (1, .c (.fn g []))]) (fun k => k ≤ l.length ∧ eachE f 0 l = eachE f k (l.drop k)) (fun k => l.length - k) 0 ⟨Nat.zero_le _, rfl⟩ (by ((first | refine qen ?_ | refine qvs ?_ | refine qeq ?_ | refine qst ?_ | refine qv ?_ | refine qc ?_ | refine qe ?_ | refine qcs ?_ | skip); (repeat' first | exact rfl | (refine qS ?_; constructor)))) ?_
  intro k hk
  (repeat' first | (refine Owe.same ?_; first | refine Owe.o ?_ | refine Owe.mk ?_ ?_) | (refine Fork.same ?_; (first | refine fkD ?_ ?_ | refine fkN ?_ ?_ | refine fkM ?_ ?_) <;> intro h) | ((first | refine OpsL.same ?_ | refine OpsDL.same ?_); first | refine pK (hg _ _) rfl rfl ?_) | refine MvQ.stay ?_)
  · have e := eachE_drop f (0, 0, 0) l k (by omega)
    have h : ¬ f (l.getD k (0, 0, 0)) = 0 := h
    rw [if_neg h, ← hk.2] at e
    (refine rqK rfl ?_; (repeat' first | exact rfl | (refine qS ?_; constructor))) <;> rw [e] <;> rfl
  · have e := eachE_drop f (0, 0, 0) l k (by omega)
    have h : f (l.getD k (0, 0, 0)) = 0 := h
    rw [if_pos h, ← hk.2] at e
    exact again0 (k + 1) ⟨by omega, e⟩ (by omega) (by ((first | refine qen ?_ | refine qvs ?_ | refine qeq ?_ | refine qst ?_ | refine qv ?_ | refine qc ?_ | refine qe ?_ | refine qcs ?_ | skip); (repeat' first | exact rfl | (refine qS ?_; constructor))))
  · have e : eachE f 0 l = (0, 0) := by rw [hk.2, List.drop_of_length_le (by omega)]; rfl
    (refine rqK rfl ?_; (repeat' first | exact rfl | (refine qS ?_; constructor))) <;> rw [e]
theorem C260 {g : FuncId} {f : Rg → Int} (hg : ∀ (i : Int) (x : Rg), PFD Tryz.prog g [vi .i64 i, .agg [int x.1, int x.2]] (vi .i64 (f x))) {l : List Rg} : l.length ≤ 1000000 → PFD Tryz.prog 260 [.c (prs l), .c (.fn g [])] (.tup [vi .i64 (eachE f 0 l).1, vi .i64 (eachE f 0 l).2]) := fun hl => by
  refine pi2 fn260 ?_
  (repeat' first | (refine Owe.same ?_; first | refine Owe.o ?_ | refine Owe.mk ?_ ?_) | (refine Fork.same ?_; (first | refine fkD ?_ ?_ | refine fkN ?_ ?_ | refine fkM ?_ ?_) <;> intro h) | refine MvQ.stay ?_)
  refine Sat.lp0 (fun k : Nat => [(11, vi .i64 k), (10, vi .i64 l.length), (9, .c (prs l)), (1, .c (.fn g []))]) (fun k => k ≤ l.length ∧ eachE f 0 l = eachE f k (l.drop k)) (fun k => l.length - k) 0 ⟨Nat.zero_le _, rfl⟩ (by ((first | refine qen ?_ | refine qvs ?_ | refine qeq ?_ | refine qst ?_ | refine qv ?_ | refine qc ?_ | refine qe ?_ | refine qcs ?_ | skip); (repeat' first | exact rfl | (refine qS ?_; constructor)))) ?_
  intro k hk
  (repeat' first | (refine Owe.same ?_; first | refine Owe.o ?_ | refine Owe.mk ?_ ?_) | (refine Fork.same ?_; (first | refine fkD ?_ ?_ | refine fkN ?_ ?_ | refine fkM ?_ ?_) <;> intro h) | ((first | refine OpsL.same ?_ | refine OpsDL.same ?_); first | refine pK (hg _ _) rfl rfl ?_) | refine MvQ.stay ?_)
  · have e := eachE_drop f (0, 0) l k (by omega)
    have h : ¬ f (l.getD k (0, 0)) = 0 := h
    rw [if_neg h, ← hk.2] at e
    (refine rqK rfl ?_; (repeat' first | exact rfl | (refine qS ?_; constructor))) <;> rw [e] <;> rfl
  · have e := eachE_drop f (0, 0) l k (by omega)
    have h : f (l.getD k (0, 0)) = 0 := h
    rw [if_pos h, ← hk.2] at e
    exact again0 (k + 1) ⟨by omega, e⟩ (by omega) (by ((first | refine qen ?_ | refine qvs ?_ | refine qeq ?_ | refine qst ?_ | refine qv ?_ | refine qc ?_ | refine qe ?_ | refine qcs ?_ | skip); (repeat' first | exact rfl | (refine qS ?_; constructor))))
  · have e : eachE f 0 l = (0, 0) := by rw [hk.2, List.drop_of_length_le (by omega)]; rfl
    (refine rqK rfl ?_; (repeat' first | exact rfl | (refine qS ?_; constructor))) <;> rw [e]
theorem C189 {i : Int} {k : Lk} : PFD Tryz.prog 189 [vi .i64 i, .agg [int k.1, int k.2.1, int k.2.2]] (vi .i64 (lkErr k)) := by
  refine pi1 fn189 ?_
  (repeat' first | (refine Owe.same ?_; first | refine Owe.o ?_ | refine Owe.mk ?_ ?_) | (refine Fork.same ?_; (first | refine fkD ?_ ?_ | refine fkN ?_ ?_ | refine fkM ?_ ?_) <;> intro h) | ((first | refine OpsL.same ?_ | refine OpsDL.same ?_); first | refine pK C128 rfl rfl ?_ | refine pK C187 rfl rfl ?_ | refine pK C125 rfl rfl ?_) | refine MvQ.stay ?_)
  all_goals ((refine rqK rfl ?_; (repeat' first | exact rfl | (refine qS ?_; constructor))); simp only [lkErr, unl_eq, unb_eq, decide_eq_true_eq, reduceCtorEq, if_false, Bool.false_eq_true]; ((repeat' split) <;> first | rfl | (exfalso; omega) | omega))
theorem C209 {i n : Int} : PFD Tryz.prog 209 [vi .i64 i, vi .i64 n] (vi .i64 (curErr n)) := by
  refine pi1 fn209 ?_
  (repeat' first | (refine Owe.same ?_; first | refine Owe.o ?_ | refine Owe.mk ?_ ?_) | (refine Fork.same ?_; (first | refine fkD ?_ ?_ | refine fkN ?_ ?_ | refine fkM ?_ ?_) <;> intro h) | ((first | refine OpsL.same ?_ | refine OpsDL.same ?_); first | refine pK C210 rfl rfl ?_ | refine pK C125 rfl rfl ?_) | refine MvQ.stay ?_)
  (refine rqK rfl ?_; (repeat' first | exact rfl | (refine qS ?_; constructor)))
theorem C261 {i : Int} {r : Rg} : PFD Tryz.prog 261 [vi .i64 i, .agg [int r.1, int r.2]] (vi .i64 (rgErr r)) := by
  refine pi1 fn261 ?_
  (repeat' first | (refine Owe.same ?_; first | refine Owe.o ?_ | refine Owe.mk ?_ ?_) | (refine Fork.same ?_; (first | refine fkD ?_ ?_ | refine fkN ?_ ?_ | refine fkM ?_ ?_) <;> intro h) | ((first | refine OpsL.same ?_ | refine OpsDL.same ?_); first | refine pK C210 rfl rfl ?_ | refine pK C125 rfl rfl ?_ | refine pK C124 rfl rfl ?_) | refine MvQ.stay ?_)
  all_goals ((refine rqK rfl ?_; (repeat' first | exact rfl | (refine qS ?_; constructor))); simp only [rgErr, fstE, unl_eq, unb_eq, decide_eq_true_eq, reduceCtorEq, if_false, Bool.false_eq_true]; ((repeat' split) <;> first | rfl | (exfalso; omega) | omega))
theorem C96 {x z : Int} {l : List Lk} : l.length ≤ 1000000 → PFD Tryz.prog 96 [.agg [int x, int z, trs l]] (.tup [vi .i64 (lineE x z l).1, vi .i64 (lineE x z l).2]) := fun hl => by
  have hc := C188 (fun i x => C189) hl
  refine pi2 fn96 ?_
  (repeat' first | (refine Owe.same ?_; first | refine Owe.o ?_ | refine Owe.mk ?_ ?_) | (refine Fork.same ?_; (first | refine fkD ?_ ?_ | refine fkN ?_ ?_ | refine fkM ?_ ?_) <;> intro h) | ((first | refine OpsL.same ?_ | refine OpsDL.same ?_); first | refine pK C187 rfl rfl ?_ | refine pK C125 rfl rfl ?_ | refine pK C124 rfl rfl ?_ | refine pK hc rfl rfl ?_) | refine MvQ.stay ?_)
  · rename_i h0
    rw [unl_and_t h0] at h
    have e : lineE x z l = (0, ldE x z l) := if_neg h
    (refine rqK rfl ?_; (repeat' first | exact rfl | (refine qS ?_; constructor))) <;> rw [e]
    rw [unl_and_t h0]
  · rename_i h0
    rw [unl_and_t h0] at h
    have e : lineE x z l = eachE lkErr 0 l := if_pos h
    (refine rqK rfl ?_; (repeat' first | exact rfl | (refine qS ?_; constructor))) <;> rw [e]
  · rename_i h0
    rw [unl_and_f (q := -10000 ≤ z ∧ z ≤ 10000) h0] at h
    have e : lineE x z l = (0, ldE x z l) := if_neg h
    (refine rqK rfl ?_; (repeat' first | exact rfl | (refine qS ?_; constructor))) <;> rw [e]
    rw [unl_and_f (q := -10000 ≤ z ∧ z ≤ 10000) h0]
  · rename_i h0
    rw [unl_and_f (q := -10000 ≤ z ∧ z ≤ 10000) h0] at h
    have e : lineE x z l = eachE lkErr 0 l := if_pos h
    (refine rqK rfl ?_; (repeat' first | exact rfl | (refine qS ?_; constructor))) <;> rw [e]
theorem C207 {x z : Int} {l : List Lk} {b : List Rg} : (l.length ≤ 1000000 ∧ b.length ≤ 1000000) → PFD Tryz.prog 207 [.agg [int x, int z, trs l], .c (prs b)] (.tup [vi .i64 (lbE x z l b).1, vi .i64 (lbE x z l b).2]) := fun ⟨hl, hb⟩ => by
  have hc := C260 (fun i x => C261) hb
  have hc2 := C96 (x := x) (z := z) hl
  refine pi2 fn207 ?_
  (repeat' first | (refine Owe.same ?_; first | refine Owe.o ?_ | refine Owe.mk ?_ ?_) | (refine Fork.same ?_; (first | refine fkD ?_ ?_ | refine fkN ?_ ?_ | refine fkM ?_ ?_) <;> intro h) | ((first | refine OpsL.same ?_ | refine OpsDL.same ?_); first | refine pK hc rfl rfl ?_ | refine pK hc2 rfl rfl ?_) | refine MvQ.stay ?_)
  · have e : lbE x z l b = lineE x z l := if_neg h
    (refine rqK rfl ?_; (repeat' first | exact rfl | (refine qS ?_; constructor))) <;> rw [e]
  · rename_i h0
    have e : lbE x z l b = (0, 10) := by rw [lbE, if_pos h0, boxE, if_neg (by omega)]
    (refine rqK rfl ?_; (repeat' first | exact rfl | (refine qS ?_; constructor))) <;> rw [e]
  · rename_i h0
    have e : lbE x z l b = eachE rgErr 0 b := by rw [lbE, if_pos h0, boxE, if_pos (by omega)]
    (refine rqK rfl ?_; (repeat' first | exact rfl | (refine qS ?_; constructor))) <;> rw [e]
end Go.Pw

set_option linter.unusedSimpArgs false
set_option linter.unusedVariables false
namespace Go.Pw
set_option maxRecDepth 2000
open Go Go.Proofs A1 A2 A3 A4
theorem C123 {x z : Int} {l : List Lk} {c : List Int} : (l.length ≤ 1000000 ∧ c.length ≤ 1000000) → PFD Tryz.prog 123 [.agg [int x, int z, trs l], .c (ints c)] (.tup [.agg (opn x z l c).1.v, vi .i64 (opn x z l c).2]) := fun ⟨hl, hc⟩ => by
  have c1 := C96 (x := x) (z := z) hl
  have c2 := C126 (fun i x => C209) hc
  refine pi2 fn123 ?_
  (repeat' first | (refine Owe.same ?_; first | refine Owe.o ?_ | refine Owe.mk ?_ ?_) | (refine Fork.same ?_; (first | refine fkD ?_ ?_ | refine fkN ?_ ?_ | refine fkM ?_ ?_) <;> intro h) | ((first | refine OpsL.same ?_ | refine OpsDL.same ?_); first | refine pK c1 rfl rfl ?_ | refine pK c2 rfl rfl ?_ | refine pK C125 rfl rfl ?_ | refine pK C124 rfl rfl ?_) | refine MvQ.stay ?_)
  · have e : opn x z l c = (⟨0, 0, [], []⟩, opE x z l c) := if_neg h
    rw [e]
    (refine rqK rfl ?_; (repeat' first | exact rfl | (refine qS ?_; constructor)))
  · have e : opn x z l c = (⟨x, z, l, c.map dup⟩, (eachE curErr 0 c).2) := if_pos h
    rw [e]
    refine Sat.nilB 2 3 82 2 (fun i => r2 (([] : List Rg).getD i (0, 0))) rfl rfl ?_
    refine Sat.lp (fun k : Nat => ⟨[(39, vi .i64 k), (38, vi .i64 c.length), (37, .c (ints c)), (8, .c (.bp 2 0)), (7, vi .i64 (eachE curErr 0 c).2), (4, .c (.bp 1 0))],
      [(3, rowv 82 2 r2 (0, 0) ((c.take k).map dup)), (2, .box [int x, int z, trs l, .ms 3 ((c.take k).map dup).length]), (1, .box [int 0, int 0, .d (.v (.slice none 0 0)), .d (.v (.slice none 0 0))])], 4⟩)
      (fun k => k ≤ c.length) (fun k => c.length - k) 0 [0, 1, 2, 3] (Nat.zero_le _) ?_ ?_
    · (refine qis ?_ ?_ <;> (repeat' first | exact rfl | (refine qS ?_; constructor)))
    · intro k hk
      have hn : ((c.take k).map dup).length = k := by simp; omega
      (repeat' first | (refine Owe.same ?_; first | refine Owe.o ?_ | refine Owe.mk ?_ ?_) | (refine Fork.same ?_; (first | refine fkD ?_ ?_ | refine fkN ?_ ?_ | refine fkM ?_ ?_) <;> intro h) | refine MvQ.stay ?_)
      · have e3 := map_take dup 0 c k (by omega)
        refine again (k + 1) [0, 1, 2, 4] (by omega) (by omega) ?_
        (refine qis ?_ ?_ <;> (repeat' first | exact rfl | (refine qS ?_; constructor)))
        · exact e3
        · simp; omega
      · have : k = c.length := by omega
        subst this
        refine rqA 0 3 _ rfl rfl rfl rfl ?_; (repeat' first | exact rfl | (refine qS ?_; constructor))
        exact congrArg (List.map dup) (List.take_of_length_le (Nat.le_refl _))
theorem C120 {x z : Int} {l : List Lk} {b : List Rg} : (l.length ≤ 1000000 ∧ b.length ≤ 1000000) → PFD Tryz.prog 120 [.agg [int x, int z, trs l], .c (prs b)] (.tup [.agg (Ln.mk x z l b).v, vi .i64 (lbE x z l b).2]) := fun hl => by
  have c1 := C207 (x := x) (z := z) hl
  refine pi2 fn120 ?_
  (repeat' first | (refine Owe.same ?_; first | refine Owe.o ?_ | refine Owe.mk ?_ ?_) | (refine Fork.same ?_; (first | refine fkD ?_ ?_ | refine fkN ?_ ?_ | refine fkM ?_ ?_) <;> intro h) | ((first | refine OpsL.same ?_ | refine OpsDL.same ?_); first | refine pK c1 rfl rfl ?_) | refine MvQ.stay ?_)
  (refine rqK rfl ?_; (repeat' first | exact rfl | (refine qS ?_; constructor)))
theorem C214 {L : Ln} : L.Ok → PFD Tryz.prog 214 [.agg L.v] (vi .i64 (slkE L)) := fun hL => by
  refine pi1 fn214 ?_
  (repeat' first | (refine Owe.same ?_; first | refine Owe.o ?_ | refine Owe.mk ?_ ?_) | (refine Fork.same ?_; (first | refine fkD ?_ ?_ | refine fkN ?_ ?_ | refine fkM ?_ ?_) <;> intro h) | refine MvQ.stay ?_)
  refine Ops.cs rfl rfl (CallS.of fn121 rfl ?_)
  refine Sat.keep [2, 6] ?_
  refine Sat.rf rfl rfl (CallS.of fn208 rfl ?_)
  (repeat' first | (refine Owe.same ?_; first | refine Owe.o ?_ | refine Owe.mk ?_ ?_) | (refine Fork.same ?_; (first | refine fkD ?_ ?_ | refine fkN ?_ ?_ | refine fkM ?_ ?_) <;> intro h) | refine MvQ.stay ?_)
  refine Sat.lp (fun k : Nat => ⟨[(24, vi .i64 k), (23, vi .i64 L.l.length), (22, .c (trs L.l)), (3, .c (.bp 4 0)), (1, .c (.bp 2 0)), (0, .c (.yd 3))], [(4, .box [int (L.pl k), int (L.ph k), int (L.pz k), int (L.hh k)]), (3, .lp [(2, .c (.bp 1 0)), (6, .c (.fn 208 [2]))] .ready none (RR Tryz.prog 12 [7, 8] ra214 rb214)), (2, .box L.v), (1, .box [int 0])], 5⟩)
    (fun k => k ≤ L.l.length ∧ ∀ j, j < k → 0 < L.pz (j + 1)) (fun k => L.l.length - k) 0 [4] ⟨Nat.zero_le _, fun j h => by omega⟩ ?_ ?_
  · (refine qis ?_ ?_ <;> (repeat' first | exact rfl | (refine qS ?_; constructor)))
  · intro k hk
    refine Fork.dec (fun hlt => ?_) (fun hlt => ?_)
    · have hlt : k < L.l.length := by omega
      have hrd := hL.round hlt
      (repeat' first | (refine Owe.same ?_; first | refine Owe.o ?_ | refine Owe.mk ?_ ?_) | (refine Fork.same ?_; (first | refine fkD ?_ ?_ | refine fkN ?_ ?_ | refine fkM ?_ ?_) <;> intro h) | refine MvQ.stay ?_)
      refine Ops.yd rfl rfl rfl rfl rfl ?_
      (repeat' first | (refine Owe.same ?_; first | refine Owe.o ?_ | refine Owe.mk ?_ ?_) | (refine Fork.same ?_; (first | refine fkD ?_ ?_ | refine fkN ?_ ?_ | refine fkM ?_ ?_) <;> intro h) | refine MvQ.stay ?_)
      refine And.intro rfl (Exists.intro _ (And.intro rfl ?_))
      (repeat' first | (refine Owe.same ?_; first | refine Owe.o ?_ | refine Owe.mk ?_ ?_) | (refine Fork.same ?_; (first | refine fkD ?_ ?_ | refine fkN ?_ ?_ | refine fkM ?_ ?_) <;> intro h) | refine MvQ.stay ?_)
      · have h' : L.pz (k + 1) ≤ 0 := h
        refine Exists.intro _ (Exists.intro _ (Exists.intro _ (And.intro rfl ?_)))
        (repeat' first | (refine Owe.same ?_; first | refine Owe.o ?_ | refine Owe.mk ?_ ?_) | (refine Fork.same ?_; (first | refine fkD ?_ ?_ | refine fkN ?_ ?_ | refine fkM ?_ ?_) <;> intro h) | refine MvQ.stay ?_)
        (refine rqK rfl ?_; (repeat' first | exact rfl | (refine qS ?_; constructor)))
        rw [slkE, if_neg (fun hh => by have := hh k hlt; omega)]
      · have h' : ¬ L.pz (k + 1) ≤ 0 := h
        refine Exists.intro _ (Exists.intro _ (Exists.intro _ (And.intro rfl ?_)))
        (repeat' first | (refine Owe.same ?_; first | refine Owe.o ?_ | refine Owe.mk ?_ ?_) | (refine Fork.same ?_; (first | refine fkD ?_ ?_ | refine fkN ?_ ?_ | refine fkM ?_ ?_) <;> intro h) | refine MvQ.stay ?_)
        refine again (k + 1) [4] ⟨hlt, fun j hj => ?_⟩ (by omega) ?_
        · rcases Nat.lt_succ_iff_lt_or_eq.1 hj with h3 | rfl
          · exact hk.2 j h3
          · omega
        · (refine qis ?_ ?_ <;> (repeat' first | exact rfl | (refine qS ?_; constructor)))
    · (repeat' first | (refine Owe.same ?_; first | refine Owe.o ?_ | refine Owe.mk ?_ ?_) | (refine Fork.same ?_; (first | refine fkD ?_ ?_ | refine fkN ?_ ?_ | refine fkM ?_ ?_) <;> intro h) | refine MvQ.stay ?_)
      (refine rqK rfl ?_; (repeat' first | exact rfl | (refine qS ?_; constructor)))
      rw [slkE, if_pos (fun j hj => hk.2 j (by omega))]
theorem C136 {L : Ln} {e : Int} : (e = 0 → L.Ok) → PFD Tryz.prog 136 [.agg L.v, vi .i64 e] (.tup [.agg L.v, vi .i64 (if e = 0 then slkE L else e)]) := fun hL => by
  by_cases he : e = 0
  · have hc := C214 (hL he)
    rw [if_pos he]
    refine pi2 fn136 ?_
    (repeat' first | (refine Owe.same ?_; first | refine Owe.o ?_ | refine Owe.mk ?_ ?_) | (refine Fork.same ?_; (first | refine fkD ?_ ?_ | refine fkN ?_ ?_ | refine fkM ?_ ?_) <;> intro h) | ((first | refine OpsL.same ?_ | refine OpsDL.same ?_); first | refine pK hc rfl rfl ?_) | refine MvQ.stay ?_)
    · (refine rqK rfl ?_; (repeat' first | exact rfl | (refine qS ?_; constructor)))
    · exact absurd he h
  · rw [if_neg he]
    refine pi2 fn136 ?_
    refine Fork.dec (fun h => absurd h he) (fun h => ?_)
    (repeat' first | (refine Owe.same ?_; first | refine Owe.o ?_ | refine Owe.mk ?_ ?_) | (refine Fork.same ?_; (first | refine fkD ?_ ?_ | refine fkN ?_ ?_ | refine fkM ?_ ?_) <;> intro h) | refine MvQ.stay ?_)
    (refine rqK rfl ?_; (repeat' first | exact rfl | (refine qS ?_; constructor)))
theorem C129 {L : Ln} : L.Ok → PFD Tryz.prog 129 [.agg L.v] (.c (prs (accL (tnF L) L.l.length))) := fun hL => by
  refine pi1 fn129 ?_
  (repeat' first | (refine Owe.same ?_; first | refine Owe.o ?_ | refine Owe.mk ?_ ?_) | (refine Fork.same ?_; (first | refine fkD ?_ ?_ | refine fkN ?_ ?_ | refine fkM ?_ ?_) <;> intro h) | refine MvQ.stay ?_)
  refine Ops.cs rfl rfl (CallS.of fn121 rfl ?_); refine Sat.keep [3, 7] ?_; refine Sat.rf rfl rfl (CallS.of fn208 rfl ?_); (repeat' first | (refine Owe.same ?_; first | refine Owe.o ?_ | refine Owe.mk ?_ ?_) | (refine Fork.same ?_; (first | refine fkD ?_ ?_ | refine fkN ?_ ?_ | refine fkM ?_ ?_) <;> intro h) | refine MvQ.stay ?_)
  refine Sat.nilB 1 0 23 2 (fun i => r2 (([] : List Rg).getD i (0, 0))) rfl rfl ?_
  refine Sat.lp (fun k : Nat => ⟨[(24, vi .i64 k), (23, vi .i64 L.l.length), (22, .c (trs L.l)), (3, .c (.bp 4 0)), (1, .c (.bp 2 0)), (0, .c (.yd 3))], [(4, .box [int (L.pl k), int (L.ph k), int (L.pz k), int (L.hh k)]), (3, .lp [(3, .c (.bp 1 0)), (7, .c (.fn 208 [2]))] .ready none (RR Tryz.prog 20 [8, 9] ra129 rb129)), (2, .box L.v), (1, .box [.ms 5 (accL (tnF L) k).length]), (5, rowv 23 2 r2 (0, 0) (accL (tnF L) k))], 6⟩)
    (fun k => k ≤ L.l.length) (fun k => L.l.length - k) 0 [4, 5] (Nat.zero_le _) ?_ ?_
  · (refine qis ?_ ?_ <;> (repeat' first | exact rfl | (refine qS ?_; constructor)))
  · intro k hk
    refine Fork.dec (fun hlt => ?_) (fun hlt => ?_)
    · have hlt : k < L.l.length := by omega
      have hrd := hL.round hlt
      have hn := accL_len (tnF L) k
      (repeat' first | (refine Owe.same ?_; first | refine Owe.o ?_ | refine Owe.mk ?_ ?_) | (refine Fork.same ?_; (first | refine fkD ?_ ?_ | refine fkN ?_ ?_ | refine fkM ?_ ?_) <;> intro h) | refine MvQ.stay ?_)
      refine Ops.yd rfl rfl rfl rfl rfl ?_
      (repeat' first | (refine Owe.same ?_; first | refine Owe.o ?_ | refine Owe.mk ?_ ?_) | (refine Fork.same ?_; (first | refine fkD ?_ ?_ | refine fkN ?_ ?_ | refine fkM ?_ ?_) <;> intro h) | refine MvQ.stay ?_)
      refine And.intro rfl (Exists.intro _ (And.intro rfl ?_))
      (repeat' first | (refine Owe.same ?_; first | refine Owe.o ?_ | refine Owe.mk ?_ ?_) | (refine Fork.same ?_; (first | refine fkD ?_ ?_ | refine fkN ?_ ?_ | refine fkM ?_ ?_) <;> intro h) | refine MvQ.stay ?_)
      refine Exists.intro _ (Exists.intro _ (Exists.intro _ (And.intro rfl ?_)))
      (repeat' first | (refine Owe.same ?_; first | refine Owe.o ?_ | refine Owe.mk ?_ ?_) | (refine Fork.same ?_; (first | refine fkD ?_ ?_ | refine fkN ?_ ?_ | refine fkM ?_ ?_) <;> intro h) | refine MvQ.stay ?_)
      refine again (k + 1) [4, 51] hlt (by omega) ?_
      (refine qis ?_ ?_ <;> (repeat' first | exact rfl | (refine qS ?_; constructor)))
      · simp [accL_len]
      · exact accL_succ _ k
    · (repeat' first | (refine Owe.same ?_; first | refine Owe.o ?_ | refine Owe.mk ?_ ?_) | (refine Fork.same ?_; (first | refine fkD ?_ ?_ | refine fkN ?_ ?_ | refine fkM ?_ ?_) <;> intro h) | refine MvQ.stay ?_)
      have : k = L.l.length := by omega
      subst this
      refine rqF 0 _ rfl rfl rfl ?_; (repeat' first | exact rfl | (refine qS ?_; constructor))
end Go.Pw

set_option linter.unusedSimpArgs false
set_option linter.unusedVariables false
namespace Go.Pw
set_option maxRecDepth 2000
open Go Go.Proofs A1 A2 A3 A4
theorem opn_ok {x z : Int} {l : List Lk} {c : List Int} (h : (opn x z l c).2 = 0) : (opn x z l c).1 = ⟨x, z, l, c.map dup⟩ ∧ (opn x z l c).1.Ok := by
  unfold opn at h ⊢
  split
  · rename_i h0
    rw [if_pos h0] at h
    refine ⟨rfl, ?_⟩
    simp only [opE] at h0
    rw [fstE_ok] at h0
    simp only [List.mem_cons, List.not_mem_nil, or_false, forall_eq_or_imp, forall_eq, unl, unb_ok (show (10 : Int) ≠ 0 by decide), decide_eq_true_eq] at h0
    rw [eachE_ok] at h
    refine ⟨lineE_ok.1 h0.1, by simp; omega, fun r hr => ?_⟩
    obtain ⟨n, hn, rfl⟩ := List.mem_map.1 hr
    have := h n hn
    rw [curErr, unl, unb_ok (by decide), decide_eq_true_eq] at this
    exact ⟨this, this, Int.le_refl _⟩
  · rename_i h0
    rw [if_neg h0] at h; exact absurd h h0
theorem lbE_ok {x z : Int} {l : List Lk} {b : List Rg} (h : (lbE x z l b).2 = 0) : (Ln.mk x z l b).Ok := by
  unfold lbE at h
  split at h
  · rename_i h0
    unfold boxE at h
    split at h
    · rename_i h1
      rw [eachE_ok] at h
      refine ⟨lineE_ok.1 h0, h1, fun r hr => ?_⟩
      have := h r hr
      rw [rgErr, fstE_ok] at this
      simp only [List.mem_cons, List.not_mem_nil, or_false, forall_eq_or_imp, forall_eq, unl, unb_ok (show (2 : Int) ≠ 0 by decide), unb_ok (show (9 : Int) ≠ 0 by decide), decide_eq_true_eq] at this
      exact ⟨this.1.1, this.1.2, this.2⟩
    · cases h
  · rename_i h0; exact absurd h h0
/-- A list, or none with an error. -/
abbrev orE {α : Type} (e : Int) (l : List α) : List α := if e = 0 then l else []
theorem C52 {x z : Int} {l : List Lk} {c : List Int} : (l.length ≤ 1000000 ∧ c.length ≤ 1000000) → PFD Tryz.prog 52 [.agg [int x, int z, trs l], .c (ints c)]
    (.tup [.c (prs (orE (opn x z l c).2 (accL (tnF (opn x z l c).1) (opn x z l c).1.l.length))), vi .i64 (opn x z l c).2]) := fun hl => by
  have c1 := C123 (x := x) (z := z) hl
  by_cases h0 : (opn x z l c).2 = 0
  · have c2 := C129 (opn_ok h0).2
    refine pi2 fn52 ?_
    (repeat' first | (refine Owe.same ?_; first | refine Owe.o ?_ | refine Owe.mk ?_ ?_) | (refine Fork.same ?_; (first | refine fkD ?_ ?_ | refine fkN ?_ ?_ | refine fkM ?_ ?_) <;> intro h) | ((first | refine OpsL.same ?_ | refine OpsDL.same ?_); first | refine pK c1 rfl rfl ?_ | refine pK c2 rfl rfl ?_) | refine MvQ.stay ?_)
    · exact absurd h0 h
    · rw [orE, if_pos h0]
      (refine rqK rfl ?_; (repeat' first | exact rfl | (refine qS ?_; constructor)))
      exact h0.symm
  · rw [orE, if_neg h0]
    refine pi2 fn52 ?_
    (repeat' first | (refine Owe.same ?_; first | refine Owe.o ?_ | refine Owe.mk ?_ ?_) | (refine Fork.same ?_; (first | refine fkD ?_ ?_ | refine fkN ?_ ?_ | refine fkM ?_ ?_) <;> intro h) | ((first | refine OpsL.same ?_ | refine OpsDL.same ?_); first | refine pK c1 rfl rfl ?_) | refine MvQ.stay ?_)
    · (refine rqK rfl ?_; (repeat' first | exact rfl | (refine qS ?_; constructor)))
    · exact absurd h h0
abbrev zro (n : Nat) : List Rg := List.replicate n (0, 0)
def stl (x z : Int) (l : List Lk) : Ln := Ln.mk x z l (zro l.length)
abbrev slP (L : Ln) (i : Nat) : Bool := decide (L.pz (i + 1) ≤ 0)
end Go.Pw

set_option linter.unusedSimpArgs false
set_option linter.unusedVariables false
namespace Go.Pw
set_option maxRecDepth 2000
open Go Go.Proofs A1 A2 A3 A4
/-- The error of a line that was opened, and of slack. -/
abbrev tgE (o : Ln × Int) : Int := if o.2 = 0 then slkE o.1 else o.2
structure Ln.Tight (L : Ln) : Prop extends L.Ok where
  t : ∀ k, k < L.l.length → 0 < L.pz (k + 1)
theorem slkE_ok {L : Ln} (h : slkE L = 0) : ∀ k, k < L.l.length → 0 < L.pz (k + 1) := by
  unfold slkE at h
  split at h
  · assumption
  · cases h
/-- What a round over the pulls of a tight line knows besides. -/
theorem Ln.Tight.round {L : Ln} (h : L.Tight) {k : Nat} (hk : k < L.l.length) :
    0 < L.pz k + (L.l.getD k (0, 0, 0)).2.1 ∧ (1 ≤ (L.l.getD k (0, 0, 0)).1 ∧ (L.l.getD k (0, 0, 0)).1 ≤ 1000) ∧
    (-20000000 ≤ (L.l.getD k (0, 0, 0)).1 * (L.pl k + (L.l.getD k (0, 0, 0)).2.2 * (L.b.getD k (0, 0)).1) ∧ (L.l.getD k (0, 0, 0)).1 * (L.pl k + (L.l.getD k (0, 0, 0)).2.2 * (L.b.getD k (0, 0)).1) ≤ 20000000) ∧
    (-20000000 ≤ (L.l.getD k (0, 0, 0)).1 * (L.ph k + (L.l.getD k (0, 0, 0)).2.2 * (L.b.getD k (0, 0)).2) ∧ (L.l.getD k (0, 0, 0)).1 * (L.ph k + (L.l.getD k (0, 0, 0)).2.2 * (L.b.getD k (0, 0)).2) ≤ 20000000) := by
  have h1 := (h.toOk.lk hk).1
  have h2 := h.toOk.bd (k + 1) (by omega)
  have h3 := mbd (A := 1000) (B := 20000) (a := L.h k) (b := L.pl (k + 1)) (by omega) h2.1
  have h4 := mbd (A := 1000) (B := 20000) (a := L.h k) (b := L.ph (k + 1)) (by omega) h2.2.1
  refine ⟨h.t k hk, h1, ?_, ?_⟩
  · simp only [Ln.h, Ln.pl, Ln.d, Ln.lo] at h3; omega
  · simp only [Ln.h, Ln.ph, Ln.d, Ln.hi] at h4; omega
abbrev lbF (L : Ln) (i : Nat) : Int := L.h i * L.pl (i + 1) / L.pz (i + 1)
abbrev ubF (L : Ln) (i : Nat) : Int := ceilI (L.h i * L.ph (i + 1)) (L.pz (i + 1))
theorem Ln.Tight.hl {L : Ln} (h : L.Tight) {k : Nat} (hk : k < L.l.length) : -20000000 ≤ L.h k * L.pl (k + 1) ∧ L.h k * L.pl (k + 1) ≤ 20000000 := (h.round hk).2.2.1
theorem Ln.Tight.hh {L : Ln} (h : L.Tight) {k : Nat} (hk : k < L.l.length) : -20000000 ≤ L.h k * L.ph (k + 1) ∧ L.h k * L.ph (k + 1) ≤ 20000000 := (h.round hk).2.2.2
theorem Ln.Tight.lb {L : Ln} (h : L.Tight) {k : Nat} (hk : k < L.l.length) : -20000000 ≤ lbF L k ∧ lbF L k ≤ 20000000 := ediv_bd (h.t k hk) (h.hl hk)
abbrev orP (e : Int) (p : Rg) : Rg := if e = 0 then p else (0, 0)
abbrev laybk (L : Ln) : Rg := (sumI (lbF L) L.l.length, sumI (ubF L) L.l.length)
theorem tgE_ok {o : Ln × Int} (h0 : tgE o = 0) (h : o.2 = 0 → o.1.Ok) : o.1.Tight := by
  unfold tgE at h0
  split at h0
  · rename_i h1; exact ⟨h h1, slkE_ok h0⟩
  · rename_i h1; exact absurd h0 h1
/-- A box that was checked. -/
abbrev opb (x z : Int) (l : List Lk) (b : List Rg) : Ln × Int := (⟨x, z, l, b⟩, (lbE x z l b).2)
end Go.Pw

set_option linter.unusedSimpArgs false
set_option linter.unusedVariables false
namespace Go.Pw
set_option maxRecDepth 2000
open Go Go.Proofs A1 A2 A3 A4
abbrev sqF (h z x : Int) : Int := h * h * (x * x + z * z)
abbrev lnF (h z x : Int) : Int := isq ((sqF h z x).tdiv (z * z))
def lenF (h z x : Int) : Rg := (lnF h z x, if lnF h z x * lnF h z x * (z * z) = sqF h z x then lnF h z x else lnF h z x + 1)
theorem len_bd {h z x : Int} (hh : 1 ≤ h ∧ h ≤ 1000) (hz : 0 < z ∧ z ≤ 20000) (hx : -20000 ≤ x ∧ x ≤ 20000) :
    (0 ≤ h * h ∧ h * h ≤ 1000000) ∧ (0 ≤ x * x ∧ x * x ≤ 400000000) ∧ (0 < z * z ∧ z * z ≤ 400000000) ∧ (0 ≤ sqF h z x ∧ sqF h z x ≤ 800000000000000) ∧ (0 ≤ (sqF h z x).tdiv (z * z) ∧ (sqF h z x).tdiv (z * z) ≤ 800000000000000) ∧
    (0 ≤ lnF h z x ∧ lnF h z x ≤ 1073741824) ∧ (0 ≤ lnF h z x * lnF h z x ∧ lnF h z x * lnF h z x ≤ 800000000000000) ∧ (0 ≤ lnF h z x * lnF h z x * (z * z) ∧ lnF h z x * lnF h z x * (z * z) ≤ 800000000000000) := by
  have h1 := mbd (a := h) (b := h) (A := 1000) (B := 1000) (by omega) (by omega)
  have h2 := mbd (a := x) (b := x) (A := 20000) (B := 20000) hx hx
  have h3 := mbd (a := z) (b := z) (A := 20000) (B := 20000) (by omega) (by omega)
  have h4 := sq_nonneg h
  have h5 := sq_nonneg x
  have h6 : 0 < z * z := Int.mul_pos hz.1 hz.1
  have h7 := mbd (a := h * h) (b := x * x + z * z) (A := 1000000) (B := 800000000) (by omega) (by omega)
  have h8 : 0 ≤ sqF h z x := Int.mul_nonneg h4 (by omega)
  have e : (sqF h z x).tdiv (z * z) = sqF h z x / (z * z) := Int.tdiv_eq_ediv_of_nonneg h8
  have h9 : 0 ≤ sqF h z x / (z * z) := Int.ediv_nonneg h8 (by omega)
  have h10 : sqF h z x / (z * z) ≤ sqF h z x := Int.ediv_le_self _ h8
  have hq : 0 ≤ (sqF h z x).tdiv (z * z) ∧ (sqF h z x).tdiv (z * z) ≤ 800000000000000 := by rw [e]; simp only [sqF] at *; omega
  obtain ⟨a1, a2, a3⟩ := isq_spec (n := (sqF h z x).tdiv (z * z)) (by omega)
  have a4 := isq_le (n := (sqF h z x).tdiv (z * z)) (by omega)
  have h11 : lnF h z x * lnF h z x * (z * z) ≤ (sqF h z x).tdiv (z * z) * (z * z) := Int.mul_le_mul_of_nonneg_right a2 (by omega)
  have h12 : (sqF h z x).tdiv (z * z) * (z * z) ≤ sqF h z x := by rw [e]; exact Int.ediv_mul_le _ (by omega)
  have h13 : 0 ≤ lnF h z x * lnF h z x := Int.mul_nonneg a1 a1
  have h14 : 0 ≤ lnF h z x * lnF h z x * (z * z) := Int.mul_nonneg h13 (by omega)
  refine ⟨by omega, by omega, by omega, ⟨h8, by simp only [sqF]; omega⟩, hq, ⟨a1, a4⟩, ⟨h13, by simp only [lnF] at *; omega⟩, h14, ?_⟩
  have : sqF h z x ≤ 800000000000000 := by simp only [sqF]; omega
  omega
theorem C137 {lo hi z g x : Int} : ((1 ≤ g ∧ g ≤ 1000) ∧ (0 < z ∧ z ≤ 20000) ∧ -20000 ≤ x ∧ x ≤ 20000) → PFD Tryz.prog 137 [.agg [int lo, int hi, int z, int g], vi .i64 x] (.agg [int (lenF g z x).1, int (lenF g z x).2]) := fun ⟨hh, hz, hx⟩ => by
  have hb := len_bd hh hz hx
  simp only [lnF, sqF] at hb
  refine pi1 fn137 ?_
  (repeat' first | (refine Owe.same ?_; first | refine Owe.o ?_ | refine Owe.mk ?_ ?_) | (refine Fork.same ?_; (first | refine fkD ?_ ?_ | refine fkN ?_ ?_ | refine fkM ?_ ?_) <;> intro h) | ((first | refine OpsL.same ?_ | refine OpsDL.same ?_); first | refine pK C215 rfl rfl ?_) | refine MvQ.stay ?_)
  · have e : lenF g z x = (lnF g z x, lnF g z x + 1) := by rw [lenF, if_neg h]
    rw [e]
    (refine rqK rfl ?_; (repeat' first | exact rfl | (refine qS ?_; constructor)))
  · have e : lenF g z x = (lnF g z x, lnF g z x) := by rw [lenF, if_pos h]
    rw [e]
    (refine rqK rfl ?_; (repeat' first | exact rfl | (refine qS ?_; constructor)))
theorem Ln.Tight.z {L : Ln} (h : L.Tight) {k : Nat} (hk : k < L.l.length) : 0 < L.pz (k + 1) ∧ L.pz (k + 1) ≤ 20000 := ⟨h.t k hk, (h.toOk.bd (k + 1) (by omega)).2.2.2⟩
theorem lenF_bd {g z x : Int} (hh : 1 ≤ g ∧ g ≤ 1000) (hz : 0 < z ∧ z ≤ 20000) (hx : -20000 ≤ x ∧ x ≤ 20000) : (-1073741825 ≤ (lenF g z x).1 ∧ (lenF g z x).1 ≤ 1073741825) ∧ -1073741825 ≤ (lenF g z x).2 ∧ (lenF g z x).2 ≤ 1073741825 := by
  have hb := (len_bd hh hz hx).2.2.2.2.2.1
  refine ⟨by unfold lenF; simp only; omega, ?_⟩
  unfold lenF
  simp only
  split <;> omega
/-- What is asked of the length of a link. -/
structure LenOk (F : Int → Int → Int → Rg) : Prop where
  c : ∀ {lo hi z g x : Int}, ((1 ≤ g ∧ g ≤ 1000) ∧ (0 < z ∧ z ≤ 20000) ∧ -20000 ≤ x ∧ x ≤ 20000) → PFD Tryz.prog 137 [.agg [int lo, int hi, int z, int g], vi .i64 x] (.agg [int (F g z x).1, int (F g z x).2])
  b : ∀ {g z x : Int}, (1 ≤ g ∧ g ≤ 1000) → (0 < z ∧ z ≤ 20000) → (-20000 ≤ x ∧ x ≤ 20000) → (-1073741825 ≤ (F g z x).1 ∧ (F g z x).1 ≤ 1073741825) ∧ -1073741825 ≤ (F g z x).2 ∧ (F g z x).2 ≤ 1073741825
theorem lenF_ok : LenOk lenF := ⟨C137, lenF_bd⟩
abbrev leF (F : Int → Int → Int → Rg) (L : Ln) (i : Nat) : Rg := F (L.h i) (L.pz (i + 1)) (L.pl (i + 1))
abbrev lenL (F : Int → Int → Int → Rg) (L : Ln) : Rg := (sumI (fun i => (leF F L i).1) L.l.length, sumI (fun i => (leF F L i).2) L.l.length)
theorem C57 {F : Int → Int → Int → Rg} (hF : LenOk F) {x z : Int} {l : List Lk} {c : List Int} : (l.length ≤ 1000000 ∧ c.length ≤ 1000000) → PFD Tryz.prog 57 [.agg [int x, int z, trs l], .c (ints c)]
    (.tup [.agg [int (orP (tgE (opn x z l c)) (lenL F (opn x z l c).1)).1, int (orP (tgE (opn x z l c)) (lenL F (opn x z l c).1)).2], vi .i64 (tgE (opn x z l c))]) := fun hl => by
  have c1 := C123 (x := x) (z := z) hl
  have c2 := C136 (L := (opn x z l c).1) (e := (opn x z l c).2) (fun h => (opn_ok h).2)
  by_cases h0 : tgE (opn x z l c) = 0
  · have hT := tgE_ok h0 fun h => (opn_ok h).2
    rw [orP, if_pos h0]
    obtain ⟨L, hLe⟩ : ∃ L, L = (opn x z l c).1 := ⟨_, rfl⟩
    rw [← hLe] at hT ⊢
    have hL := hT.toOk
    refine pi2 fn57 ?_
    (repeat' first | (refine Owe.same ?_; first | refine Owe.o ?_ | refine Owe.mk ?_ ?_) | (refine Fork.same ?_; (first | refine fkD ?_ ?_ | refine fkN ?_ ?_ | refine fkM ?_ ?_) <;> intro h) | ((first | refine OpsL.same ?_ | refine OpsDL.same ?_); first | refine pK c1 rfl rfl ?_ | refine pK c2 rfl rfl ?_) | refine MvQ.stay ?_)
    · exact absurd h0 h
    rw [← hLe]
    refine Ops.cs rfl rfl (CallS.of fn121 rfl ?_); refine Sat.keep [4, 8, 26] ?_; refine Sat.rf rfl rfl (CallS.of fn208 rfl ?_); (repeat' first | (refine Owe.same ?_; first | refine Owe.o ?_ | refine Owe.mk ?_ ?_) | (refine Fork.same ?_; (first | refine fkD ?_ ?_ | refine fkN ?_ ?_ | refine fkM ?_ ?_) <;> intro h) | refine MvQ.stay ?_)
    refine Sat.lp (fun k : Nat => ⟨[(24, vi .i64 k), (23, vi .i64 L.l.length), (22, .c (trs L.l)), (3, .c (.bp 6 0)), (1, .c (.bp 4 0)), (0, .c (.yd 5))], [(6, .box [int (L.pl k), int (L.ph k), int (L.pz k), int (L.hh k)]), (5, .lp [(4, .c (.bp 1 0)), (8, .c (.bp 3 0)), (26, .c (.fn 208 [4]))] .ready none (RR Tryz.prog 47 [27, 28] ra57 rb57)), (4, .box L.v), (1, .box [int 0, int 0]), (3, .box [int (sumI (fun i => (leF F L i).1) k), int (sumI (fun i => (leF F L i).2) k)])], 7⟩)
      (fun k => k ≤ L.l.length) (fun k => L.l.length - k) 0 [6] (Nat.zero_le _) ?_ ?_
    · (refine qis ?_ ?_ <;> (repeat' first | exact rfl | (refine qS ?_; constructor)))
    · intro k hk
      refine Fork.dec (fun hlt => ?_) (fun hlt => ?_)
      · have hlt : k < L.l.length := by omega
        have hrd := hL.round hlt
        have b0 := fun j (hj : j < L.l.length) => hF.b (g := L.h j) (hL.lk hj).1 (hT.z hj) (hL.bd (j + 1) (by omega)).1
        have s1 := sumI_bd (f := fun i => (leF F L i).1) (n := L.l.length) (M := 1073741825) (fun j hj => (b0 j hj).1) k hk
        have s2 := sumI_bd (f := fun i => (leF F L i).2) (n := L.l.length) (M := 1073741825) (fun j hj => (b0 j hj).2) k hk
        have b1 := b0 k hlt
        have p1 := (hL.lk hlt).1
        have p2 := hT.z hlt
        have p3 := (hL.bd (k + 1) (by omega)).1
        simp only [Ln.h, Ln.pl, Ln.ph, Ln.pz, Ln.d, Ln.w, Ln.lo, Ln.hi] at b1 p1 p2 p3
        (repeat' first | (refine Owe.same ?_; first | refine Owe.o ?_ | refine Owe.mk ?_ ?_) | (refine Fork.same ?_; (first | refine fkD ?_ ?_ | refine fkN ?_ ?_ | refine fkM ?_ ?_) <;> intro h) | refine MvQ.stay ?_)
        refine Ops.yd rfl rfl rfl rfl rfl ?_
        (repeat' first | (refine Owe.same ?_; first | refine Owe.o ?_ | refine Owe.mk ?_ ?_) | (refine Fork.same ?_; (first | refine fkD ?_ ?_ | refine fkN ?_ ?_ | refine fkM ?_ ?_) <;> intro h) | refine MvQ.stay ?_)
        refine And.intro rfl (Exists.intro _ (And.intro rfl ?_))
        (repeat' first | (refine Owe.same ?_; first | refine Owe.o ?_ | refine Owe.mk ?_ ?_) | (refine Fork.same ?_; (first | refine fkD ?_ ?_ | refine fkN ?_ ?_ | refine fkM ?_ ?_) <;> intro h) | ((first | refine OpsL.same ?_ | refine OpsDL.same ?_); first | refine pK hF.c rfl rfl ?_) | refine MvQ.stay ?_)
        refine Exists.intro _ (Exists.intro _ (Exists.intro _ (And.intro rfl ?_)))
        (repeat' first | (refine Owe.same ?_; first | refine Owe.o ?_ | refine Owe.mk ?_ ?_) | (refine Fork.same ?_; (first | refine fkD ?_ ?_ | refine fkN ?_ ?_ | refine fkM ?_ ?_) <;> intro h) | refine MvQ.stay ?_)
        refine again (k + 1) [6] hlt (by omega) ?_
        (refine qis ?_ ?_ <;> (repeat' first | exact rfl | (refine qS ?_; constructor)))
      · (repeat' first | (refine Owe.same ?_; first | refine Owe.o ?_ | refine Owe.mk ?_ ?_) | (refine Fork.same ?_; (first | refine fkD ?_ ?_ | refine fkN ?_ ?_ | refine fkM ?_ ?_) <;> intro h) | refine MvQ.stay ?_)
        have : k = L.l.length := by omega
        subst this
        (refine rqK rfl ?_; (repeat' first | exact rfl | (refine qS ?_; constructor)))
        exact h0.symm
  · rw [orP, if_neg h0]
    refine pi2 fn57 ?_
    (repeat' first | (refine Owe.same ?_; first | refine Owe.o ?_ | refine Owe.mk ?_ ?_) | (refine Fork.same ?_; (first | refine fkD ?_ ?_ | refine fkN ?_ ?_ | refine fkM ?_ ?_) <;> intro h) | ((first | refine OpsL.same ?_ | refine OpsDL.same ?_); first | refine pK c1 rfl rfl ?_ | refine pK c2 rfl rfl ?_) | refine MvQ.stay ?_)
    · (refine rqK rfl ?_; (repeat' first | exact rfl | (refine qS ?_; constructor)))
    · exact absurd h h0
abbrev enF (F : Int → Int → Int → Rg) (L : Ln) (i : Nat) : Int := (F (L.h i) (L.pz (i + 1)) (max (-L.pl (i + 1)) (L.ph (i + 1)))).2
theorem C56 {F : Int → Int → Int → Rg} (hF : LenOk F) {x z : Int} {l : List Lk} {b : List Rg} : (l.length ≤ 1000000 ∧ b.length ≤ 1000000) → PFD Tryz.prog 56 [.agg [int x, int z, trs l], .c (prs b)]
    (.tup [vi .i64 (if tgE (opb x z l b) = 0 then sumI (enF F (opb x z l b).1) (opb x z l b).1.l.length else 0), vi .i64 (tgE (opb x z l b))]) := fun hl => by
  have c1 := C120 (x := x) (z := z) hl
  have c2 := C136 (L := (opb x z l b).1) (e := (opb x z l b).2) (fun h => lbE_ok h)
  by_cases h0 : tgE (opb x z l b) = 0
  · have hT := tgE_ok h0 fun h => lbE_ok h
    rw [if_pos h0]
    obtain ⟨L, hLe⟩ : ∃ L, L = (opb x z l b).1 := ⟨_, rfl⟩
    have hL := hLe ▸ hT.toOk
    have hT := hLe ▸ hT
    refine pi2 fn56 ?_
    (repeat' first | (refine Owe.same ?_; first | refine Owe.o ?_ | refine Owe.mk ?_ ?_) | (refine Fork.same ?_; (first | refine fkD ?_ ?_ | refine fkN ?_ ?_ | refine fkM ?_ ?_) <;> intro h) | ((first | refine OpsL.same ?_ | refine OpsDL.same ?_); first | refine pK c1 rfl rfl ?_ | refine pK c2 rfl rfl ?_) | refine MvQ.stay ?_)
    · exact absurd h0 h
    rw [← hLe]
    rw [show (Ln.mk x z l b) = L from hLe.symm]
    refine Ops.cs rfl rfl (CallS.of fn121 rfl ?_); refine Sat.keep [8, 24] ?_; refine Sat.rf rfl rfl (CallS.of fn208 rfl ?_); (repeat' first | (refine Owe.same ?_; first | refine Owe.o ?_ | refine Owe.mk ?_ ?_) | (refine Fork.same ?_; (first | refine fkD ?_ ?_ | refine fkN ?_ ?_ | refine fkM ?_ ?_) <;> intro h) | refine MvQ.stay ?_)
    refine Sat.lp (fun k : Nat => ⟨[(24, vi .i64 k), (23, vi .i64 L.l.length), (22, .c (trs L.l)), (3, .c (.bp 5 0)), (1, .c (.bp 3 0)), (0, .c (.yd 4))], [(5, .box [int (L.pl k), int (L.ph k), int (L.pz k), int (L.hh k)]), (4, .lp [(8, .c (.bp 2 0)), (24, .c (.fn 208 [3]))] .ready none (RR Tryz.prog 41 [25, 26] ra56 rb56)), (3, .box L.v), (2, .box [int (sumI (enF F L) k)])], 6⟩)
      (fun k => k ≤ L.l.length) (fun k => L.l.length - k) 0 [5] (Nat.zero_le _) ?_ ?_
    · (refine qis ?_ ?_ <;> (repeat' first | exact rfl | (refine qS ?_; constructor)))
    · intro k hk
      refine Fork.dec (fun hlt => ?_) (fun hlt => ?_)
      · have hlt : k < L.l.length := by omega
        have hrd := hL.round hlt
        have b0 := fun j (hj : j < L.l.length) => hF.b (g := L.h j) (x := max (-L.pl (j + 1)) (L.ph (j + 1))) (hL.lk hj).1 (hT.z hj) (by have := hL.bd (j + 1) (by omega); omega)
        have s2 := sumI_bd (f := enF F L) (n := L.l.length) (M := 1073741825) (fun j hj => (b0 j hj).2) k hk
        have b1 := b0 k hlt
        have p1 := (hL.lk hlt).1
        have p2 := hT.z hlt
        have p3 := hL.bd (k + 1) (by omega)
        simp only [Ln.h, Ln.pl, Ln.ph, Ln.pz, Ln.d, Ln.w, Ln.lo, Ln.hi] at b1 p1 p2 p3
        (repeat' first | (refine Owe.same ?_; first | refine Owe.o ?_ | refine Owe.mk ?_ ?_) | (refine Fork.same ?_; (first | refine fkD ?_ ?_ | refine fkN ?_ ?_ | refine fkM ?_ ?_) <;> intro h) | refine MvQ.stay ?_)
        refine Ops.yd rfl rfl rfl rfl rfl ?_
        (repeat' first | (refine Owe.same ?_; first | refine Owe.o ?_ | refine Owe.mk ?_ ?_) | (refine Fork.same ?_; (first | refine fkD ?_ ?_ | refine fkN ?_ ?_ | refine fkM ?_ ?_) <;> intro h) | refine MvQ.stay ?_)
        refine And.intro rfl (Exists.intro _ (And.intro rfl ?_))
        (repeat' first | (refine Owe.same ?_; first | refine Owe.o ?_ | refine Owe.mk ?_ ?_) | (refine Fork.same ?_; (first | refine fkD ?_ ?_ | refine fkN ?_ ?_ | refine fkM ?_ ?_) <;> intro h) | ((first | refine OpsL.same ?_ | refine OpsDL.same ?_); first | refine pK hF.c rfl rfl ?_) | refine MvQ.stay ?_)
        refine Exists.intro _ (Exists.intro _ (Exists.intro _ (And.intro rfl ?_)))
        (repeat' first | (refine Owe.same ?_; first | refine Owe.o ?_ | refine Owe.mk ?_ ?_) | (refine Fork.same ?_; (first | refine fkD ?_ ?_ | refine fkN ?_ ?_ | refine fkM ?_ ?_) <;> intro h) | refine MvQ.stay ?_)
        refine again (k + 1) [5] hlt (by omega) ?_
        (refine qis ?_ ?_ <;> (repeat' first | exact rfl | (refine qS ?_; constructor)))
      · (repeat' first | (refine Owe.same ?_; first | refine Owe.o ?_ | refine Owe.mk ?_ ?_) | (refine Fork.same ?_; (first | refine fkD ?_ ?_ | refine fkN ?_ ?_ | refine fkM ?_ ?_) <;> intro h) | refine MvQ.stay ?_)
        have : k = L.l.length := by omega
        subst this
        (refine rqK rfl ?_; (repeat' first | exact rfl | (refine qS ?_; constructor)))
        exact h0.symm
  · rw [if_neg h0]
    refine pi2 fn56 ?_
    (repeat' first | (refine Owe.same ?_; first | refine Owe.o ?_ | refine Owe.mk ?_ ?_) | (refine Fork.same ?_; (first | refine fkD ?_ ?_ | refine fkN ?_ ?_ | refine fkM ?_ ?_) <;> intro h) | ((first | refine OpsL.same ?_ | refine OpsDL.same ?_); first | refine pK c1 rfl rfl ?_ | refine pK c2 rfl rfl ?_) | refine MvQ.stay ?_)
    · (refine rqK rfl ?_; (repeat' first | exact rfl | (refine qS ?_; constructor)))
    · exact absurd h h0
end Go.Pw

set_option linter.unusedSimpArgs false
set_option linter.unusedVariables false
namespace Go.Pw
set_option maxRecDepth 2000
open Go Go.Proofs A1 A2 A3 A4
def idxI {α : Type} (f : α → Bool) : Nat → List α → Int
  | _, [] => -1
  | k, x :: l => if f x = true then (k : Int) else idxI f (k + 1) l
theorem idxI_drop {α : Type} (f : α → Bool) (d : α) (l : List α) (k : Nat) (h : k < l.length) : idxI f k (l.drop k) = if f (l.getD k d) = true then (k : Int) else idxI f (k + 1) (l.drop (k + 1)) := by
  rw [List.drop_eq_getElem_cons h, idxI, List.getD_eq_getElem?_getD, List.getElem?_eq_getElem h]
  rfl
theorem idxI_nn {α : Type} {f : α → Bool} : ∀ {l : List α} {k : Nat}, 0 ≤ idxI f k l ↔ ∃ x ∈ l, f x = true
  | [], k => by simp [idxI]
  | x :: l, k => by
    rw [idxI]
    split
    · rename_i h; simp [h]
    · rename_i h; rw [idxI_nn (l := l)]; simp [h]
abbrev sideI (a b q : Rg) : Int := (b.1 - a.1) * (q.2 - a.2) - (b.2 - a.2) * (q.1 - a.1)
abbrev inB (a b q : Rg) : Prop := (min a.1 b.1 ≤ q.1 ∧ q.1 ≤ max a.1 b.1) ∧ min a.2 b.2 ≤ q.2 ∧ q.2 ≤ max a.2 b.2
abbrev onI (a b q : Rg) : Prop := sideI a b q = 0 ∧ inB a b q
/-- Way k of a closed path. -/
abbrev wyA (l : List Rg) (k : Nat) : Rg := l.getD k (0, 0)
abbrev wyB (l : List Rg) (k : Nat) : Rg := l.getD ((k + 1) % l.length) (0, 0)
def noOn (l : List Rg) (q : Rg) : Prop := ∀ k, k < l.length → ¬ onI (wyA l k) (wyB l k) q
instance (l : List Rg) (q : Rg) : Decidable (noOn l q) := inferInstanceAs (Decidable (∀ k, k < l.length → ¬ onI (wyA l k) (wyB l k) q))
end Go.Pw

set_option linter.unusedSimpArgs false
set_option linter.unusedVariables false
namespace Go.Pw
set_option maxRecDepth 2000
open Go Go.Proofs A1 A2 A3 A4
end Go.Pw

set_option linter.unusedSimpArgs false
set_option linter.unusedVariables false
namespace Go.Pw
set_option maxRecDepth 2000
open Go Go.Proofs A1 A2 A3 A4
end Go.Pw

set_option linter.unusedSimpArgs false
set_option linter.unusedVariables false
namespace Go.Pw
set_option maxRecDepth 2000
open Go Go.Proofs A1 A2 A3 A4
abbrev sqI (a : Rg) : Int := a.1 * a.1 + a.2 * a.2
theorem C130 {a : Rg} : ((-20000 ≤ a.1 ∧ a.1 ≤ 20000) ∧ -20000 ≤ a.2 ∧ a.2 ≤ 20000) → PFD Tryz.prog 130 [.agg [int a.1, int a.2]] (vi .i64 (sqI a)) := fun h => by
  have h1 := mbd (A := 20000) (B := 20000) h.1 h.1
  have h2 := mbd (A := 20000) (B := 20000) h.2 h.2
  refine pi1 fn130 ?_
  (repeat' first | (refine Owe.same ?_; first | refine Owe.o ?_ | refine Owe.mk ?_ ?_) | (refine Fork.same ?_; (first | refine fkD ?_ ?_ | refine fkN ?_ ?_ | refine fkM ?_ ?_) <;> intro h) | refine MvQ.stay ?_)
  (refine rqK rfl ?_; (repeat' first | exact rfl | (refine qS ?_; constructor)))
theorem mul_self_nn (a : Int) : 0 ≤ a * a := by
  rcases Int.le_total 0 a with h | h
  · exact Int.mul_nonneg h h
  · exact Int.mul_nonneg_of_nonpos_of_nonpos h h
theorem accL_get {α : Type} (f : Nat → α) {d : α} {n i : Nat} (h : i < n) : (accL f n).getD i d = f i := by
  simp [accL, List.getD_eq_getElem?_getD, h]
end Go.Pw

set_option linter.unusedSimpArgs false
set_option linter.unusedVariables false
namespace Go.Pw
set_option maxRecDepth 2000
open Go Go.Proofs A1 A2 A3 A4
abbrev exL : List Lk := [(10, 20, 3), (10, -20, 5), (5, 0, 0)]
abbrev exC : List Int := [4, -2, 7]
abbrev exB : List Rg := [(2, 4), (-2, 0), (0, 9)]
theorem C85 : PFD Tryz.prog 85 [] (.agg [int 0, int 100, trs exL]) := by
  refine pi1 fn85 ?_
  (repeat' first | (refine Owe.same ?_; first | refine Owe.o ?_ | refine Owe.mk ?_ ?_) | (refine Fork.same ?_; (first | refine fkD ?_ ?_ | refine fkN ?_ ?_ | refine fkM ?_ ?_) <;> intro h) | refine MvQ.stay ?_)
  (refine rqK rfl ?_; (repeat' first | exact rfl | (refine qS ?_; constructor)))
theorem C86 : PFD Tryz.prog 86 [] (.c (ints exC)) := by
  refine pi1 fn86 ?_
  (repeat' first | (refine Owe.same ?_; first | refine Owe.o ?_ | refine Owe.mk ?_ ?_) | (refine Fork.same ?_; (first | refine fkD ?_ ?_ | refine fkN ?_ ?_ | refine fkM ?_ ?_) <;> intro h) | refine MvQ.stay ?_)
  (refine rqK rfl ?_; (repeat' first | exact rfl | (refine qS ?_; constructor)))
theorem C88 : PFD Tryz.prog 88 [] (.c (prs exB)) := by
  refine pi1 fn88 ?_
  (repeat' first | (refine Owe.same ?_; first | refine Owe.o ?_ | refine Owe.mk ?_ ?_) | (refine Fork.same ?_; (first | refine fkD ?_ ?_ | refine fkN ?_ ?_ | refine fkM ?_ ?_) <;> intro h) | refine MvQ.stay ?_)
  (refine rqK rfl ?_; (repeat' first | exact rfl | (refine qS ?_; constructor)))
end Go.Pw

set_option linter.unusedSimpArgs false
set_option linter.unusedVariables false
namespace Go.Pw
set_option maxRecDepth 2000
open Go Go.Proofs A1 A2 A3 A4
theorem ldE_0 {x z : Int} {l : List Lk} (h1 : (-10000 ≤ x ∧ x ≤ 10000) ∧ -10000 ≤ z ∧ z ≤ 10000) (h2 : 0 < l.length) (h3 : l.length ≤ 10) : ldE x z l = 0 := by
  simp only [ldE, fstE, unl_eq]
  rw [if_pos h1, if_pos rfl, if_pos (show (0 : Int) < l.length by omega), if_pos rfl, if_pos (show (l.length : Int) ≤ 10 by omega), if_pos rfl]
theorem C104 {x z : Int} {l : List Lk} : l.length ≤ 1000000 → PFD Tryz.prog 104 [.agg [int x, int z, trs l]] (.tup [vi .i64 (lineE x z l).1, vi .i64 (lineE x z l).2]) := fun hl => by
  by_cases h1 : (-10000 ≤ x ∧ x ≤ 10000) ∧ -10000 ≤ z ∧ z ≤ 10000
  · by_cases h2 : l.length = 0
    · have e : lineE x z l = (0, 10) := by
        simp only [lineE, ldE, fstE, unl_eq]
        rw [if_pos h1, if_neg (show ¬ (0 : Int) < l.length by omega)]; rfl
      rw [e]
      refine pi2 fn104 ?_
      (repeat' first | (refine Owe.same ?_; first | refine Owe.o ?_ | refine Owe.mk ?_ ?_) | (refine Fork.same ?_; (first | refine fkD ?_ ?_ | refine fkN ?_ ?_ | refine fkM ?_ ?_) <;> intro h) | ((first | refine OpsL.same ?_ | refine OpsDL.same ?_); first | refine pK C46 rfl rfl ?_) | refine MvQ.stay ?_)
      all_goals first | (exfalso; omega) | (refine rqK rfl ?_; (repeat' first | exact rfl | (refine qS ?_; constructor)))
    · by_cases h3 : l.length ≤ 10
      · have e : lineE x z l = eachE lkErr 0 l := by rw [lineE, if_pos (ldE_0 h1 (by omega) h3)]
        rw [e]
        refine pi2 fn104 ?_
        (repeat' first | (refine Owe.same ?_; first | refine Owe.o ?_ | refine Owe.mk ?_ ?_) | (refine Fork.same ?_; (first | refine fkD ?_ ?_ | refine fkN ?_ ?_ | refine fkM ?_ ?_) <;> intro h) | ((first | refine OpsL.same ?_ | refine OpsDL.same ?_); first | refine pK C46 rfl rfl ?_) | refine MvQ.stay ?_)
        all_goals first | (exfalso; omega) | skip
        refine Sat.lp (fun k : Nat => ⟨[(5, vi .i64 k), (1, .c (.bp 0 0))], [(0, .box [int x, int z, trs l])], 1⟩)
          (fun k => k ≤ l.length ∧ eachE lkErr 0 l = eachE lkErr k (l.drop k)) (fun k => l.length - k) 0 [0] ⟨Nat.zero_le _, rfl⟩ ?_ ?_
        · (refine qis ?_ ?_ <;> (repeat' first | exact rfl | (refine qS ?_; constructor)))
        · intro k hk
          refine Fork.dec (fun hlt => ?_) (fun hlt => ?_)
          · have hlt : k < l.length := by omega
            have e2 := eachE_drop lkErr (0, 0, 0) l k hlt
            by_cases h4 : lkOk (l.getD k (0, 0, 0))
            · rw [if_pos (by simp only [lkErr, unl_eq]; rw [if_pos h4]), ← hk.2] at e2
              obtain ⟨h5, h6, h7⟩ := h4
              (repeat' first | (refine Owe.same ?_; first | refine Owe.o ?_ | refine Owe.mk ?_ ?_) | (refine Fork.same ?_; (first | refine fkD ?_ ?_ | refine fkN ?_ ?_ | refine fkM ?_ ?_) <;> intro h) | ((first | refine OpsL.same ?_ | refine OpsDL.same ?_); first | refine pK C46 rfl rfl ?_) | refine MvQ.stay ?_)
              all_goals first | (exfalso; simp only [Int.toNat_natCast] at *; omega) | skip
              refine again (k + 1) [0] ⟨hlt, e2⟩ (by omega) ?_
              (refine qis ?_ ?_ <;> (repeat' first | exact rfl | (refine qS ?_; constructor)))
            · rw [if_neg (by simp only [lkErr, unl_eq]; rw [if_neg h4]; decide), ← hk.2] at e2
              have e3 : lkErr (l.getD k (0, 0, 0)) = 2 := by simp only [lkErr, unl_eq]; rw [if_neg h4]
              rw [e2, e3]
              simp only [lkOk] at h4
              (repeat' first | (refine Owe.same ?_; first | refine Owe.o ?_ | refine Owe.mk ?_ ?_) | (refine Fork.same ?_; (first | refine fkD ?_ ?_ | refine fkN ?_ ?_ | refine fkM ?_ ?_) <;> intro h) | ((first | refine OpsL.same ?_ | refine OpsDL.same ?_); first | refine pK C46 rfl rfl ?_) | refine MvQ.stay ?_)
              all_goals first | (refine rqK rfl ?_; (repeat' first | exact rfl | (refine qS ?_; constructor))) | (exfalso; simp only [Int.toNat_natCast] at *; omega)
          · (repeat' first | (refine Owe.same ?_; first | refine Owe.o ?_ | refine Owe.mk ?_ ?_) | (refine Fork.same ?_; (first | refine fkD ?_ ?_ | refine fkN ?_ ?_ | refine fkM ?_ ?_) <;> intro h) | refine MvQ.stay ?_)
            rw [hk.2, List.drop_of_length_le (by omega)]
            (refine rqK rfl ?_; (repeat' first | exact rfl | (refine qS ?_; constructor)))
      · have e : lineE x z l = (0, 8) := by
          simp only [lineE, ldE, fstE, unl_eq]
          rw [if_pos h1, if_pos (show (0 : Int) < l.length by omega), if_neg (show ¬ (l.length : Int) ≤ 10 by omega)]; rfl
        rw [e]
        refine pi2 fn104 ?_
        (repeat' first | (refine Owe.same ?_; first | refine Owe.o ?_ | refine Owe.mk ?_ ?_) | (refine Fork.same ?_; (first | refine fkD ?_ ?_ | refine fkN ?_ ?_ | refine fkM ?_ ?_) <;> intro h) | ((first | refine OpsL.same ?_ | refine OpsDL.same ?_); first | refine pK C46 rfl rfl ?_) | refine MvQ.stay ?_)
        all_goals first | (exfalso; omega) | (refine rqK rfl ?_; (repeat' first | exact rfl | (refine qS ?_; constructor)))
  · have e : lineE x z l = (0, 2) := by
      simp only [lineE, ldE, fstE, unl_eq]
      rw [if_neg h1]; rfl
    rw [e]
    refine pi2 fn104 ?_
    (repeat' first | (refine Owe.same ?_; first | refine Owe.o ?_ | refine Owe.mk ?_ ?_) | (refine Fork.same ?_; (first | refine fkD ?_ ?_ | refine fkN ?_ ?_ | refine fkM ?_ ?_) <;> intro h) | ((first | refine OpsL.same ?_ | refine OpsDL.same ?_); first | refine pK C46 rfl rfl ?_) | refine MvQ.stay ?_)
    all_goals first | (exfalso; omega) | (refine rqK rfl ?_; (repeat' first | exact rfl | (refine qS ?_; constructor)))
theorem C22 {x z : Int} {l : List Lk} : l.length ≤ 1000000 → PFD Tryz.prog 22 [.agg [int x, int z, trs l]] (vi .i64 (lineE x z l).2) := fun hl => by
  have c1 := C104 (x := x) (z := z) hl
  refine pi1 fn22 ?_
  (repeat' first | (refine Owe.same ?_; first | refine Owe.o ?_ | refine Owe.mk ?_ ?_) | (refine Fork.same ?_; (first | refine fkD ?_ ?_ | refine fkN ?_ ?_ | refine fkM ?_ ?_) <;> intro h) | ((first | refine OpsL.same ?_ | refine OpsDL.same ?_); first | refine pK c1 rfl rfl ?_) | refine MvQ.stay ?_)
  (refine rqK rfl ?_; (repeat' first | exact rfl | (refine qS ?_; constructor)))
/-- The error of currents. -/
def curE (n : Nat) (c : List Int) : Int := if c.length = n then (eachE curErr 0 c).2 else 10
theorem opn_err {x z : Int} {l : List Lk} {c : List Int} : (opn x z l c).2 = if (lineE x z l).2 = 0 then curE l.length c else (lineE x z l).2 := by
  simp only [opn, opE, fstE, unl_eq, curE]
  by_cases h1 : (lineE x z l).2 = 0
  · rw [if_pos h1, if_pos h1]
    by_cases h2 : c.length = l.length
    · rw [if_pos (show (c.length : Int) = l.length by omega), if_pos h2, if_pos rfl, if_pos rfl]
    · rw [if_neg (show ¬ (c.length : Int) = l.length by omega), if_neg h2]; rfl
  · rw [if_neg h1, if_neg h1, if_neg h1]
end Go.Pw

set_option linter.unusedSimpArgs false
set_option linter.unusedVariables false
namespace Go.Pw
set_option maxRecDepth 2000
open Go Go.Proofs A1 A2 A3 A4
abbrev opL (x z : Int) (l : List Lk) (c : List Int) : Ln := ⟨x, z, l, c.map dup⟩
theorem dup_get {c : List Int} {k : Nat} (h : k < c.length) : (c.map dup).getD k (0, 0) = (c.getD k 0, c.getD k 0) := by
  simp [List.getD_eq_getElem?_getD, h]
theorem C105 {x z : Int} {l : List Lk} {b : List Rg} : (l.length ≤ 1000000 ∧ b.length ≤ 1000000) → PFD Tryz.prog 105 [.agg [int x, int z, trs l], .c (prs b)] (.tup [vi .i64 (boxE l.length b).1, vi .i64 (boxE l.length b).2]) := fun hl => by
  by_cases h1 : b.length = l.length
  · rw [boxE, if_pos h1]
    refine pi2 fn105 ?_
    (repeat' first | (refine Owe.same ?_; first | refine Owe.o ?_ | refine Owe.mk ?_ ?_) | (refine Fork.same ?_; (first | refine fkD ?_ ?_ | refine fkN ?_ ?_ | refine fkM ?_ ?_) <;> intro h) | ((first | refine OpsL.same ?_ | refine OpsDL.same ?_); first | refine pK C195 rfl rfl ?_) | refine MvQ.stay ?_)
    · exfalso; omega
    refine Sat.lp (fun k : Nat => ⟨[(6, vi .i64 k), (1, .c (prs b)), (2, .c (.bp 0 0))], [(0, .box [int x, int z, trs l])], 1⟩)
      (fun k => k ≤ b.length ∧ eachE rgErr 0 b = eachE rgErr k (b.drop k)) (fun k => b.length - k) 0 [0] ⟨Nat.zero_le _, rfl⟩ ?_ ?_
    · (refine qis ?_ ?_ <;> (repeat' first | exact rfl | (refine qS ?_; constructor)))
    · intro k hk
      refine Fork.dec (fun hlt => ?_) (fun hlt => ?_)
      · have hlt : k < b.length := by omega
        have e2 := eachE_drop rgErr (0, 0) b k hlt
        by_cases h4 : curOk (b.getD k (0, 0)).1 ∧ curOk (b.getD k (0, 0)).2
        · by_cases h5 : (b.getD k (0, 0)).1 ≤ (b.getD k (0, 0)).2
          · have e3 : rgErr (b.getD k (0, 0)) = 0 := by simp only [rgErr, fstE, unl_eq]; rw [if_pos h4, if_pos rfl, if_pos h5, if_pos rfl]
            rw [if_pos e3, ← hk.2] at e2
            obtain ⟨h6, h7⟩ := h4
            (repeat' first | (refine Owe.same ?_; first | refine Owe.o ?_ | refine Owe.mk ?_ ?_) | (refine Fork.same ?_; (first | refine fkD ?_ ?_ | refine fkN ?_ ?_ | refine fkM ?_ ?_) <;> intro h) | ((first | refine OpsL.same ?_ | refine OpsDL.same ?_); first | refine pK C195 rfl rfl ?_) | refine MvQ.stay ?_)
            all_goals first | (exfalso; simp only [Int.toNat_natCast, curOk] at *; omega) | skip
            refine again (k + 1) [0] ⟨hlt, e2⟩ (by omega) ?_
            (refine qis ?_ ?_ <;> (repeat' first | exact rfl | (refine qS ?_; constructor)))
          · have e3 : rgErr (b.getD k (0, 0)) = 9 := by simp only [rgErr, fstE, unl_eq]; rw [if_pos h4, if_pos rfl, if_neg h5]; rfl
            rw [if_neg (by rw [e3]; decide), ← hk.2, e3] at e2
            rw [e2]
            obtain ⟨h6, h7⟩ := h4
            (repeat' first | (refine Owe.same ?_; first | refine Owe.o ?_ | refine Owe.mk ?_ ?_) | (refine Fork.same ?_; (first | refine fkD ?_ ?_ | refine fkN ?_ ?_ | refine fkM ?_ ?_) <;> intro h) | ((first | refine OpsL.same ?_ | refine OpsDL.same ?_); first | refine pK C195 rfl rfl ?_) | refine MvQ.stay ?_)
            all_goals first | (exfalso; simp only [Int.toNat_natCast, curOk] at *; omega) | (refine rqK rfl ?_; (repeat' first | exact rfl | (refine qS ?_; constructor)))
        · have e3 : rgErr (b.getD k (0, 0)) = 2 := by simp only [rgErr, fstE, unl_eq]; rw [if_neg h4]; rfl
          rw [if_neg (by rw [e3]; decide), ← hk.2, e3] at e2
          rw [e2]
          (repeat' first | (refine Owe.same ?_; first | refine Owe.o ?_ | refine Owe.mk ?_ ?_) | (refine Fork.same ?_; (first | refine fkD ?_ ?_ | refine fkN ?_ ?_ | refine fkM ?_ ?_) <;> intro h) | ((first | refine OpsL.same ?_ | refine OpsDL.same ?_); first | refine pK C195 rfl rfl ?_) | refine MvQ.stay ?_)
          all_goals first | (exfalso; simp only [Int.toNat_natCast, curOk] at *; omega) | (refine rqK rfl ?_; (repeat' first | exact rfl | (refine qS ?_; constructor)))
      · (repeat' first | (refine Owe.same ?_; first | refine Owe.o ?_ | refine Owe.mk ?_ ?_) | (refine Fork.same ?_; (first | refine fkD ?_ ?_ | refine fkN ?_ ?_ | refine fkM ?_ ?_) <;> intro h) | refine MvQ.stay ?_)
        rw [hk.2, List.drop_of_length_le (by omega)]
        (refine rqK rfl ?_; (repeat' first | exact rfl | (refine qS ?_; constructor)))
  · rw [boxE, if_neg h1]
    refine pi2 fn105 ?_
    (repeat' first | (refine Owe.same ?_; first | refine Owe.o ?_ | refine Owe.mk ?_ ?_) | (refine Fork.same ?_; (first | refine fkD ?_ ?_ | refine fkN ?_ ?_ | refine fkM ?_ ?_) <;> intro h) | ((first | refine OpsL.same ?_ | refine OpsDL.same ?_); first | refine pK C195 rfl rfl ?_) | refine MvQ.stay ?_)
    all_goals first | (exfalso; omega) | (refine rqK rfl ?_; (repeat' first | exact rfl | (refine qS ?_; constructor)))
end Go.Pw

set_option linter.unusedSimpArgs false
set_option linter.unusedVariables false
namespace Go.Pw
set_option maxRecDepth 2000
open Go Go.Proofs A1 A2 A3 A4
/-- A tension in range. -/
abbrev tzOk (a : Rg) : Prop := (-20000 ≤ a.1 ∧ a.1 ≤ 20000) ∧ -20000 ≤ a.2 ∧ a.2 ≤ 20000
theorem sqz_bd {a : Rg} (h : tzOk a) : 0 ≤ sqI a ∧ sqI a ≤ 800000000 := by
  have h1 := mbd (A := 20000) (B := 20000) h.1 h.1
  have h2 := mbd (A := 20000) (B := 20000) h.2 h.2
  have h3 := mul_self_nn a.1
  have h4 := mul_self_nn a.2
  simp only [sqI]; omega
theorem tz_ok {L : Ln} (hL : L.Ok) {i : Nat} (hi : i < L.l.length) : tzOk ((accL (tnF L) L.l.length).getD i (0, 0)) := by
  rw [accL_get _ hi]
  have h1 := hL.bd (i + 1) (by omega)
  exact ⟨h1.1, h1.2.2⟩
/-- The first of the greatest squares. -/
def sgI (l : List Rg) : Nat → Nat
  | 0 => 0
  | k + 1 => if sqI (l.getD (sgI l k) (0, 0)) < sqI (l.getD k (0, 0)) then k else sgI l k
theorem sgI_lt (l : List Rg) (h : 0 < l.length) : ∀ k, k ≤ l.length → sgI l k < l.length
  | 0, _ => h
  | k + 1, hk => by
    have := sgI_lt l h k (by omega)
    unfold sgI
    split <;> omega
abbrev sgQ (l : List Rg) (k : Nat) : Int := if k = 0 then -1 else sqI (l.getD (sgI l k) (0, 0))
theorem C53 {x z : Int} {l : List Lk} {c : List Int} : (l.length ≤ 1000000 ∧ c.length ≤ 1000000) → PFD Tryz.prog 53 [.agg [int x, int z, trs l], .c (ints c)]
    (.tup [vi .i64 (if (opn x z l c).2 = 0 then (sgI (accL (tnF (opn x z l c).1) (opn x z l c).1.l.length) (opn x z l c).1.l.length : Nat) else 0 : Int),
      vi .i64 (if (opn x z l c).2 = 0 then sqI ((accL (tnF (opn x z l c).1) (opn x z l c).1.l.length).getD (sgI (accL (tnF (opn x z l c).1) (opn x z l c).1.l.length) (opn x z l c).1.l.length) (0, 0)) else 0), vi .i64 (opn x z l c).2]) := fun hl => by
  have c1 := C123 (x := x) (z := z) hl
  by_cases h0 : (opn x z l c).2 = 0
  · have hL := (opn_ok h0).2
    rw [if_pos h0, if_pos h0]
    obtain ⟨L, hLe⟩ : ∃ L, L = (opn x z l c).1 := ⟨_, rfl⟩
    rw [← hLe] at hL c1 ⊢
    rw [h0] at c1 ⊢
    have c2 := C129 hL
    have ht := fun i => tz_ok (i := i) hL
    have hn := hL.k.n
    have hlen := accL_len (tnF L) L.l.length
    generalize hn' : L.l.length = n at *
    generalize accL (tnF L) n = T at *
    refine pi3 fn53 ?_
    (repeat' first | (refine Owe.same ?_; first | refine Owe.o ?_ | refine Owe.mk ?_ ?_) | (refine Fork.same ?_; (first | refine fkD ?_ ?_ | refine fkN ?_ ?_ | refine fkM ?_ ?_) <;> intro h) | ((first | refine OpsL.same ?_ | refine OpsDL.same ?_); first | refine oK c1 rfl rfl rfl ?_ | refine oK c2 rfl rfl rfl ?_) | refine MvQ.stay ?_)
    · exact absurd rfl h
    refine Sat.lp (fun k : Nat => ⟨[(26, vi .i64 k), (25, vi .i64 n), (24, .c (prs T)), (9, vi .i64 ((sgI T k : Nat) : Int)), (10, vi .i64 (sgQ T k))], [], 0⟩)
      (fun k => k ≤ n) (fun k => n - k) 0 [] (Nat.zero_le _) ?_ ?_
    · (refine qis ?_ ?_ <;> (repeat' first | exact rfl | (refine qS ?_; constructor)))
      omega
    · intro k hk
      have hs := sgI_lt T (by omega) k (by omega)
      refine Fork.dec (fun hlt => ?_) (fun hlt => ?_)
      · have hlt : k < n := by omega
        obtain ⟨t1, t2⟩ := ht k hlt
        have hsq := sqz_bd (ht k hlt)
        (repeat' first | (refine Owe.same ?_; first | refine Owe.o ?_ | refine Owe.mk ?_ ?_) | (refine Fork.same ?_; (first | refine fkD ?_ ?_ | refine fkN ?_ ?_ | refine fkM ?_ ?_) <;> intro h) | ((first | refine OpsL.same ?_ | refine OpsDL.same ?_); first | refine oK C130 rfl rfl rfl ?_) | refine MvQ.stay ?_)
        all_goals (
          simp only [Int.toNat_natCast] at h
          refine again (k + 1) [] (by omega) (by omega) ?_
          (refine qis ?_ ?_ <;> (repeat' first | exact rfl | (refine qS ?_; constructor))))
        all_goals first | trivial | skip
        all_goals (by_cases hk0 : k = 0 <;> simp only [sgQ, sgI, hk0, if_true, if_false] at * <;> (repeat' split) <;> first | rfl | omega | (exfalso; omega))
      · have : k = n := by omega
        subst this
        (repeat' first | (refine Owe.same ?_; first | refine Owe.o ?_ | refine Owe.mk ?_ ?_) | (refine Fork.same ?_; (first | refine fkD ?_ ?_ | refine fkN ?_ ?_ | refine fkM ?_ ?_) <;> intro h) | refine MvQ.stay ?_)
        have hq : sgQ T k = sqI (T.getD (sgI T k) (0, 0)) := if_neg (by omega)
        rw [← hq]
        (refine rqK rfl ?_; (repeat' first | exact rfl | (refine qS ?_; constructor)))
  · rw [if_neg h0, if_neg h0]
    refine pi3 fn53 ?_
    (repeat' first | (refine Owe.same ?_; first | refine Owe.o ?_ | refine Owe.mk ?_ ?_) | (refine Fork.same ?_; (first | refine fkD ?_ ?_ | refine fkN ?_ ?_ | refine fkM ?_ ?_) <;> intro h) | ((first | refine OpsL.same ?_ | refine OpsDL.same ?_); first | refine oK c1 rfl rfl rfl ?_) | refine MvQ.stay ?_)
    · (refine rqK rfl ?_; (repeat' first | exact rfl | (refine qS ?_; constructor)))
    · exact absurd h h0
abbrev stErr (m : Int) : Int := unl (0 ≤ m ∧ m ≤ 50000) 2
def stE (n : Nat) (s : List Int) : Int := if s.length = n then (eachE stErr 0 s).2 else 10
theorem C127 {i n : Int} : PFD Tryz.prog 127 [vi .i64 i, vi .i64 n] (vi .i64 (stErr n)) := by
  refine pi1 fn127 ?_
  (repeat' first | (refine Owe.same ?_; first | refine Owe.o ?_ | refine Owe.mk ?_ ?_) | (refine Fork.same ?_; (first | refine fkD ?_ ?_ | refine fkN ?_ ?_ | refine fkM ?_ ?_) <;> intro h) | ((first | refine OpsL.same ?_ | refine OpsDL.same ?_); first | refine pK C128 rfl rfl ?_ | refine pK C125 rfl rfl ?_) | refine MvQ.stay ?_)
  (refine rqK rfl ?_; (repeat' first | exact rfl | (refine qS ?_; constructor)))
abbrev bkP (T : List Rg) (s : List Int) (i : Nat) : Bool := decide (s.getD i 0 * s.getD i 0 < sqI (T.getD i (0, 0)))
theorem stE_ok {n : Nat} {s : List Int} (h : stE n s = 0) : s.length = n ∧ ∀ i, i < n → 0 ≤ s.getD i 0 ∧ s.getD i 0 ≤ 50000 := by
  unfold stE at h
  split at h
  · rename_i h1
    refine ⟨h1, fun i hi => ?_⟩
    rw [eachE_ok] at h
    have := h _ (getD_mem 0 (by omega : i < s.length))
    rw [stErr, unl, unb_ok (by decide), decide_eq_true_eq] at this
    exact this
  · cases h
def brE (e : Int) (n : Nat) (s : List Int) : Int := if e = 0 then stE n s else e
theorem C51 {x z : Int} {l : List Lk} {c s : List Int} : (l.length ≤ 1000000 ∧ c.length ≤ 1000000 ∧ s.length ≤ 1000000) → PFD Tryz.prog 51 [.agg [int x, int z, trs l], .c (ints c), .c (ints s)]
    (.tup [.c (ints (orE (brE (opn x z l c).2 l.length s) (fltL (bkP (accL (tnF (opL x z l c)) l.length) s) l.length))), vi .i64 (brE (opn x z l c).2 l.length s)]) := fun ⟨hl, hc, hs⟩ => by
  have c1 := C123 (x := x) (z := z) ⟨hl, hc⟩
  have c3 := C126 (fun i x => C127 (i := i) (n := x)) hs
  by_cases h0 : (opn x z l c).2 = 0
  · obtain ⟨hLe, hL⟩ := opn_ok h0
    rw [hLe] at hL
    have c2 := C129 hL
    have ht : ∀ i, i < l.length → tzOk ((accL (tnF (opL x z l c)) l.length).getD i (0, 0)) := fun i hi => tz_ok (i := i) hL hi
    have hn : 0 < l.length ∧ l.length ≤ 10 := hL.k.n
    have hlen := accL_len (tnF (opL x z l c)) l.length
    rw [show brE (opn x z l c).2 l.length s = stE l.length s from if_pos h0]
    by_cases h1 : s.length = l.length
    · rw [stE, if_pos h1]
      have f : fstE [0, unb (decide ((s.length : Int) = l.length)) 10] = 0 := by simp only [fstE]; rw [if_pos trivial, decide_eq_true (by omega)]; rfl
      by_cases h2 : (eachE stErr 0 s).2 = 0
      · obtain ⟨_, hsb⟩ := stE_ok (n := l.length) (s := s) (by rw [stE, if_pos h1]; exact h2)
        rw [h2, orE, if_pos rfl]
        rw [h0, hLe] at c1
        rw [h2] at c3
        have c2 : PFD Tryz.prog 129 [.agg (opL x z l c).v] (.c (prs (accL (tnF (opL x z l c)) l.length))) := c2
        generalize accL (tnF (opL x z l c)) l.length = T at *
        refine pi2 fn51 ?_
        (repeat' first | (refine Owe.same ?_; first | refine Owe.o ?_ | refine Owe.mk ?_ ?_) | (refine Fork.same ?_; (first | refine fkD ?_ ?_ | refine fkN ?_ ?_ | refine fkM ?_ ?_) <;> intro h) | ((first | refine OpsL.same ?_ | refine OpsDL.same ?_); first | refine oK c1 rfl rfl rfl ?_ | refine oK C125 rfl rfl rfl ?_) | refine MvQ.stay ?_)
        (repeat' first | (refine Owe.same ?_; first | refine Owe.o ?_ | refine Owe.mk ?_ ?_) | (refine Fork.same ?_; (first | refine fkD ?_ ?_ | refine fkN ?_ ?_ | refine fkM ?_ ?_) <;> intro h) | ((first | refine OpsL.same ?_ | refine OpsDL.same ?_); first | refine pK C124 rfl rfl ?_) | refine MvQ.stay ?_)
        · exact absurd f h
        (repeat' first | (refine Owe.same ?_; first | refine Owe.o ?_ | refine Owe.mk ?_ ?_) | (refine Fork.same ?_; (first | refine fkD ?_ ?_ | refine fkN ?_ ?_ | refine fkM ?_ ?_) <;> intro h) | ((first | refine OpsL.same ?_ | refine OpsDL.same ?_); first | refine oK c3 rfl rfl rfl ?_ | refine oK c2 rfl rfl rfl ?_) | refine MvQ.stay ?_)
        · exact absurd rfl h
        refine Sat.nilS 12 3 1 (fun i => r1 (([] : List Int).getD i 0)) rfl ?_
        refine Sat.lp (fun k : Nat => ⟨[(45, vi .i64 k), (44, vi .i64 T.length), (43, .c (prs T)), (12, .c (.ms 0 (fltL (bkP T s) k).length)), (2, .c (ints s))], [(0, rowv 3 1 r1 0 (fltL (bkP T s) k))], 1⟩)
          (fun k => k ≤ l.length) (fun k => l.length - k) 0 [2] (Nat.zero_le _) ?_ ?_
        · (refine qis ?_ ?_ <;> (repeat' first | exact rfl | (refine qS ?_; constructor)))
        · intro k hk
          have hfl := fltL_len (bkP T s) k
          have hfs := fltL_succ (bkP T s) k
          refine Fork.dec (fun hlt => ?_) (fun hlt => ?_)
          · have hlt : k < l.length := by omega
            obtain ⟨t1, t2⟩ := ht k hlt
            have h1 := hsb k hlt
            have h2 := mbd (A := 50000) (B := 50000) (a := s.getD k 0) (b := s.getD k 0) (by omega) (by omega)
            (repeat' first | (refine Owe.same ?_; first | refine Owe.o ?_ | refine Owe.mk ?_ ?_) | (refine Fork.same ?_; (first | refine fkD ?_ ?_ | refine fkN ?_ ?_ | refine fkM ?_ ?_) <;> intro h) | ((first | refine OpsL.same ?_ | refine OpsDL.same ?_); first | refine oK C130 rfl rfl rfl ?_) | refine MvQ.stay ?_)

            · rw [if_pos (by exact decide_eq_true h)] at hfs
              refine again (k + 1) [13] hlt (by omega) ?_
              (refine qis ?_ ?_ <;> (repeat' first | exact rfl | (refine qS ?_; constructor)))
              · rw [hfs]; simp
              · exact hfs
            · rw [if_neg (by simp only [decide_eq_true_eq]; exact h)] at hfs
              refine again (k + 1) [0] hlt (by omega) ?_
              (refine qis ?_ ?_ <;> (repeat' first | exact rfl | (refine qS ?_; constructor)))
              · rw [hfs]
              · rw [hfs]; try exact EEq.same _
          · (repeat' first | (refine Owe.same ?_; first | refine Owe.o ?_ | refine Owe.mk ?_ ?_) | (refine Fork.same ?_; (first | refine fkD ?_ ?_ | refine fkN ?_ ?_ | refine fkM ?_ ?_) <;> intro h) | refine MvQ.stay ?_)
            have : k = l.length := by omega
            subst this
            refine rqF 0 _ rfl rfl rfl ?_; (repeat' first | exact rfl | (refine qS ?_; constructor))
      · rw [orE, if_neg h2]
        rw [h0] at c1
        refine pi2 fn51 ?_
        (repeat' first | (refine Owe.same ?_; first | refine Owe.o ?_ | refine Owe.mk ?_ ?_) | (refine Fork.same ?_; (first | refine fkD ?_ ?_ | refine fkN ?_ ?_ | refine fkM ?_ ?_) <;> intro h) | ((first | refine OpsL.same ?_ | refine OpsDL.same ?_); first | refine oK c1 rfl rfl rfl ?_ | refine oK C125 rfl rfl rfl ?_) | refine MvQ.stay ?_)
        (repeat' first | (refine Owe.same ?_; first | refine Owe.o ?_ | refine Owe.mk ?_ ?_) | (refine Fork.same ?_; (first | refine fkD ?_ ?_ | refine fkN ?_ ?_ | refine fkM ?_ ?_) <;> intro h) | ((first | refine OpsL.same ?_ | refine OpsDL.same ?_); first | refine pK C124 rfl rfl ?_) | refine MvQ.stay ?_)
        · exact absurd f h
        (repeat' first | (refine Owe.same ?_; first | refine Owe.o ?_ | refine Owe.mk ?_ ?_) | (refine Fork.same ?_; (first | refine fkD ?_ ?_ | refine fkN ?_ ?_ | refine fkM ?_ ?_) <;> intro h) | ((first | refine OpsL.same ?_ | refine OpsDL.same ?_); first | refine oK c3 rfl rfl rfl ?_) | refine MvQ.stay ?_)
        · (refine rqK rfl ?_; (repeat' first | exact rfl | (refine qS ?_; constructor)))
        · exact absurd h h2
    · rw [stE, if_neg h1, orE, if_neg (by decide)]
      have f : fstE [0, unb (decide ((s.length : Int) = l.length)) 10] = 10 := by simp only [fstE]; rw [if_pos trivial, decide_eq_false (by omega)]; rfl
      rw [h0] at c1
      refine pi2 fn51 ?_
      (repeat' first | (refine Owe.same ?_; first | refine Owe.o ?_ | refine Owe.mk ?_ ?_) | (refine Fork.same ?_; (first | refine fkD ?_ ?_ | refine fkN ?_ ?_ | refine fkM ?_ ?_) <;> intro h) | ((first | refine OpsL.same ?_ | refine OpsDL.same ?_); first | refine oK c1 rfl rfl rfl ?_ | refine oK C125 rfl rfl rfl ?_) | refine MvQ.stay ?_)
      (repeat' first | (refine Owe.same ?_; first | refine Owe.o ?_ | refine Owe.mk ?_ ?_) | (refine Fork.same ?_; (first | refine fkD ?_ ?_ | refine fkN ?_ ?_ | refine fkM ?_ ?_) <;> intro h) | ((first | refine OpsL.same ?_ | refine OpsDL.same ?_); first | refine pK C124 rfl rfl ?_) | refine MvQ.stay ?_)
      · (refine rqK rfl ?_; (repeat' first | exact rfl | (refine qS ?_; constructor)))
        exact f
      · rw [f] at h; exact absurd h (by decide)
  · rw [show brE (opn x z l c).2 l.length s = (opn x z l c).2 from if_neg h0, orE, if_neg h0]
    refine pi2 fn51 ?_
    (repeat' first | (refine Owe.same ?_; first | refine Owe.o ?_ | refine Owe.mk ?_ ?_) | (refine Fork.same ?_; (first | refine fkD ?_ ?_ | refine fkN ?_ ?_ | refine fkM ?_ ?_) <;> intro h) | ((first | refine OpsL.same ?_ | refine OpsDL.same ?_); first | refine oK c1 rfl rfl rfl ?_ | refine oK C125 rfl rfl rfl ?_) | refine MvQ.stay ?_)
    (repeat' first | (refine Owe.same ?_; first | refine Owe.o ?_ | refine Owe.mk ?_ ?_) | (refine Fork.same ?_; (first | refine fkD ?_ ?_ | refine fkN ?_ ?_ | refine fkM ?_ ?_) <;> intro h) | ((first | refine OpsL.same ?_ | refine OpsDL.same ?_); first | refine pK C124 rfl rfl ?_) | refine MvQ.stay ?_)
    · (refine rqK rfl ?_; (repeat' first | exact rfl | (refine qS ?_; constructor)))
      simp only [fstE]; rw [if_neg h0]
    · exfalso; revert h; simp only [fstE]; rw [if_neg h0]; exact h0
end Go.Pw

set_option linter.unusedSimpArgs false
set_option linter.unusedVariables false
namespace Go.Pw
set_option maxRecDepth 2000
open Go Go.Proofs A1 A2 A3 A4
abbrev slkN (x z : Int) (l : List Lk) : Int := if (fltL (slP (stl x z l)) l.length).length = 0 then 0 else 21
theorem opL_ph {x z : Int} {l : List Lk} {c : List Int} (h : c.length = l.length) : ∀ k : Nat, k ≤ l.length → (opL x z l c).ph k = (opL x z l c).pl k
  | 0, _ => rfl
  | k + 1, hk => by
    have e : (opL x z l c).hi k = (opL x z l c).lo k := by simp only [Ln.hi, Ln.lo, dup_get (show k < c.length by omega)]
    show (opL x z l c).ph k + (opL x z l c).d k * (opL x z l c).hi k = (opL x z l c).pl k + (opL x z l c).d k * (opL x z l c).lo k
    rw [opL_ph h k (by omega), e]
end Go.Pw

set_option linter.unusedSimpArgs false
set_option linter.unusedVariables false
namespace Go.Pw
set_option maxRecDepth 2000
open Go Go.Proofs A1 A2 A3 A4
end Go.Pw

set_option linter.unusedSimpArgs false
set_option linter.unusedVariables false
namespace Go.Pw
set_option maxRecDepth 2000
open Go Go.Proofs A1 A2 A3 A4
theorem opL_pz {x z : Int} {l : List Lk} {b : List Rg} : ∀ k : Nat, (Ln.mk x z l b).pz k = (stl x z l).pz k
  | 0 => rfl
  | k + 1 => by
    show (Ln.mk x z l b).pz k + _ = (stl x z l).pz k + _
    rw [opL_pz k]; rfl
abbrev plF (L : Ln) (i : Nat) : Rg := (L.pl (i + 1), L.ph (i + 1))
abbrev nrI (a : Rg) : Int := max (max a.1 (-a.2)) 0
abbrev frI (a : Rg) : Int := max (-a.1) a.2
abbrev sbF (L : Ln) (i : Nat) : Rg := (nrI (plF L i) * nrI (plF L i) + L.pz (i + 1) * L.pz (i + 1), frI (plF L i) * frI (plF L i) + L.pz (i + 1) * L.pz (i + 1))
theorem C48 {x z : Int} {l : List Lk} {b : List Rg} : (l.length ≤ 1000000 ∧ b.length ≤ 1000000) → PFD Tryz.prog 48 [.agg [int x, int z, trs l], .c (prs b)]
    (.tup [.c (prs (orE (lbE x z l b).2 (accL (sbF ⟨x, z, l, b⟩) l.length))), vi .i64 (lbE x z l b).2]) := fun hl => by
  have c1 := C120 (x := x) (z := z) hl
  by_cases h0 : (lbE x z l b).2 = 0
  · have hL : (Ln.mk x z l b).Ok := lbE_ok h0
    rw [orE, if_pos h0]
    obtain ⟨L, hLe⟩ : ∃ L, L = Ln.mk x z l b := ⟨_, rfl⟩
    rw [← hLe] at hL c1 ⊢
    rw [show l.length = L.l.length by rw [hLe]]
    refine pi2 fn48 ?_
    (repeat' first | (refine Owe.same ?_; first | refine Owe.o ?_ | refine Owe.mk ?_ ?_) | (refine Fork.same ?_; (first | refine fkD ?_ ?_ | refine fkN ?_ ?_ | refine fkM ?_ ?_) <;> intro h) | ((first | refine OpsL.same ?_ | refine OpsDL.same ?_); first | refine pK c1 rfl rfl ?_) | refine MvQ.stay ?_)
    · exact absurd h0 h
    refine Ops.cs rfl rfl (CallS.of fn121 rfl ?_); refine Sat.keep [8, 23] ?_; refine Sat.rf rfl rfl (CallS.of fn208 rfl ?_); (repeat' first | (refine Owe.same ?_; first | refine Owe.o ?_ | refine Owe.mk ?_ ?_) | (refine Fork.same ?_; (first | refine fkD ?_ ?_ | refine fkN ?_ ?_ | refine fkM ?_ ?_) <;> intro h) | refine MvQ.stay ?_)
    refine Sat.nilB 2 0 82 2 (fun i => r2 (([] : List Rg).getD i (0, 0))) rfl rfl ?_
    refine Sat.lp (fun k : Nat => ⟨[(24, vi .i64 k), (23, vi .i64 L.l.length), (22, .c (trs L.l)), (3, .c (.bp 5 0)), (1, .c (.bp 3 0)), (0, .c (.yd 4))], [(5, .box [int (L.pl k), int (L.ph k), int (L.pz k), int (L.hh k)]), (4, .lp [(8, .c (.bp 2 0)), (23, .c (.fn 208 [3]))] .ready none (RR Tryz.prog 65 [24, 25] ra48 rb48)), (3, .box L.v), (2, .box [.ms 6 (accL (sbF L) k).length]), (6, rowv 82 2 r2 (0, 0) (accL (sbF L) k))], 7⟩)
      (fun k => k ≤ L.l.length) (fun k => L.l.length - k) 0 [5, 6] (Nat.zero_le _) ?_ ?_
    · (refine qis ?_ ?_ <;> (repeat' first | exact rfl | (refine qS ?_; constructor)))
    · intro k hk
      refine Fork.dec (fun hlt => ?_) (fun hlt => ?_)
      · have hlt : k < L.l.length := by omega
        have hrd := hL.round hlt
        have hn := accL_len (sbF L) k
        have hs := accL_succ (sbF L) k
        have hb := hL.bd (k + 1) (by omega)
        have m1 := mbd (a := nrI (plF L k)) (b := nrI (plF L k)) (A := 20000) (B := 20000) (by simp only [nrI, plF]; omega) (by simp only [nrI, plF]; omega)
        have m2 := mbd (a := frI (plF L k)) (b := frI (plF L k)) (A := 20000) (B := 20000) (by simp only [frI, plF]; omega) (by simp only [frI, plF]; omega)
        have m3 := mbd (a := L.pz (k + 1)) (b := L.pz (k + 1)) (A := 20000) (B := 20000) hb.2.2 hb.2.2
        simp only [nrI, frI, plF, Ln.pl, Ln.ph, Ln.pz, Ln.d, Ln.lo, Ln.hi, Ln.w] at m1 m2 m3
        (repeat' first | (refine Owe.same ?_; first | refine Owe.o ?_ | refine Owe.mk ?_ ?_) | (refine Fork.same ?_; (first | refine fkD ?_ ?_ | refine fkN ?_ ?_ | refine fkM ?_ ?_) <;> intro h) | refine MvQ.stay ?_)
        refine Ops.yd rfl rfl rfl rfl rfl ?_
        (repeat' first | (refine Owe.same ?_; first | refine Owe.o ?_ | refine Owe.mk ?_ ?_) | (refine Fork.same ?_; (first | refine fkD ?_ ?_ | refine fkN ?_ ?_ | refine fkM ?_ ?_) <;> intro h) | refine MvQ.stay ?_)
        refine And.intro rfl (Exists.intro _ (And.intro rfl ?_))
        (repeat' first | (refine Owe.same ?_; first | refine Owe.o ?_ | refine Owe.mk ?_ ?_) | (refine Fork.same ?_; (first | refine fkD ?_ ?_ | refine fkN ?_ ?_ | refine fkM ?_ ?_) <;> intro h) | refine MvQ.stay ?_)
        refine Exists.intro _ (Exists.intro _ (Exists.intro _ (And.intro rfl ?_)))
        (repeat' first | (refine Owe.same ?_; first | refine Owe.o ?_ | refine Owe.mk ?_ ?_) | (refine Fork.same ?_; (first | refine fkD ?_ ?_ | refine fkN ?_ ?_ | refine fkM ?_ ?_) <;> intro h) | refine MvQ.stay ?_)
        refine again (k + 1) [5, 70] hlt (by omega) ?_
        (refine qis ?_ ?_ <;> (repeat' first | exact rfl | (refine qS ?_; constructor)))
        · rw [hs]; simp
        · exact hs
      · (repeat' first | (refine Owe.same ?_; first | refine Owe.o ?_ | refine Owe.mk ?_ ?_) | (refine Fork.same ?_; (first | refine fkD ?_ ?_ | refine fkN ?_ ?_ | refine fkM ?_ ?_) <;> intro h) | refine MvQ.stay ?_)
        have : k = L.l.length := by omega
        subst this
        refine rqF 0 _ rfl rfl rfl ?_; (repeat' first | exact rfl | (refine qS ?_; constructor))
        exact h0.symm
  · rw [orE, if_neg h0]
    refine pi2 fn48 ?_
    (repeat' first | (refine Owe.same ?_; first | refine Owe.o ?_ | refine Owe.mk ?_ ?_) | (refine Fork.same ?_; (first | refine fkD ?_ ?_ | refine fkN ?_ ?_ | refine fkM ?_ ?_) <;> intro h) | ((first | refine OpsL.same ?_ | refine OpsDL.same ?_); first | refine pK c1 rfl rfl ?_) | refine MvQ.stay ?_)
    · (refine rqK rfl ?_; (repeat' first | exact rfl | (refine qS ?_; constructor)))
    · exact absurd h h0
theorem C23 {x z : Int} {l : List Lk} {b : List Rg} : (l.length ≤ 1000000 ∧ b.length ≤ 1000000) → PFD Tryz.prog 23 [.agg [int x, int z, trs l], .c (prs b)] (vi .i64 (boxE l.length b).2) := fun hl => by
  have c1 := C105 (x := x) (z := z) hl
  refine pi1 fn23 ?_
  (repeat' first | (refine Owe.same ?_; first | refine Owe.o ?_ | refine Owe.mk ?_ ?_) | (refine Fork.same ?_; (first | refine fkD ?_ ?_ | refine fkN ?_ ?_ | refine fkM ?_ ?_) <;> intro h) | ((first | refine OpsL.same ?_ | refine OpsDL.same ?_); first | refine pK c1 rfl rfl ?_) | refine MvQ.stay ?_)
  (refine rqK rfl ?_; (repeat' first | exact rfl | (refine qS ?_; constructor)))
theorem Ln.Ok.le {L : Ln} (h : L.Ok) : ∀ k : Nat, k ≤ L.l.length → L.pl k ≤ L.ph k
  | 0, _ => Int.le_refl _
  | k + 1, hk => by
    have := h.le k (by omega)
    have h1 := (h.lk (k := k) (by omega)).2.2
    have h2 := (h.rg (k := k) (by omega)).2.2
    have := Int.mul_le_mul_of_nonneg_left h2 h1.1
    show L.pl k + L.d k * L.lo k ≤ L.ph k + L.d k * L.hi k
    omega
theorem nr_sq {p : Rg} (h : p.1 ≤ p.2) : nrI p * nrI p = if p.2 < 0 then p.2 * p.2 else if 0 < p.1 then p.1 * p.1 else 0 := by
  split
  · rw [show nrI p = -p.2 by simp only [nrI]; omega, Int.neg_mul_neg]
  · split
    · rw [show nrI p = p.1 by simp only [nrI]; omega]
    · rw [show nrI p = 0 by simp only [nrI]; omega]; rfl
end Go.Pw

set_option linter.unusedSimpArgs false
set_option linter.unusedVariables false
namespace Go.Pw
set_option maxRecDepth 2000
open Go Go.Proofs A1 A2 A3 A4
end Go.Pw

set_option linter.unusedSimpArgs false
set_option linter.unusedVariables false
namespace Go.Pw
set_option maxRecDepth 2000
open Go Go.Proofs A1 A2 A3 A4
theorem C49w {n b : Int} : (w64 n ∧ 0 < b ∧ Md b) → PFD Tryz.prog 49 [vi .i64 n, vi .i64 b] (vi .i64 (n % b)) := fun ⟨hn, hb, hb'⟩ => by
  have h5 := tmod_bd (n := n) hb
  simp only [w64] at hn
  refine pi1 fn49 ?_
  (repeat' first | (refine Owe.same ?_; first | refine Owe.o ?_ | refine Owe.mk ?_ ?_) | (refine Fork.same ?_; (first | refine fkD ?_ ?_ | refine fkN ?_ ?_ | refine fkM ?_ ?_) <;> intro h) | refine MvQ.stay ?_)
  · (refine rqK rfl ?_; (repeat' first | exact rfl | (refine qS ?_; constructor))); rw [← mod_eq hb, if_pos h]
  · (refine rqK rfl ?_; (repeat' first | exact rfl | (refine qS ?_; constructor))); rw [← mod_eq hb, if_neg h]
section
variable {x z : Int} {l : List Lk} {b b' : List Rg}
theorem pl_mono (hd : ∀ k, k < l.length → 0 ≤ (l.getD k (0, 0, 0)).2.2) (h : ∀ k, k < l.length → (b.getD k (0, 0)).1 ≤ (b'.getD k (0, 0)).1) : ∀ k, k ≤ l.length → (Ln.mk x z l b).pl k ≤ (Ln.mk x z l b').pl k
  | 0, _ => Int.le_refl _
  | k + 1, hk => by
    have := pl_mono hd h k (by omega)
    have := Int.mul_le_mul_of_nonneg_left (h k (by omega)) (hd k (by omega))
    show (Ln.mk x z l b).pl k + (l.getD k (0, 0, 0)).2.2 * (b.getD k (0, 0)).1 ≤ (Ln.mk x z l b').pl k + (l.getD k (0, 0, 0)).2.2 * (b'.getD k (0, 0)).1
    omega
theorem ph_mono (hd : ∀ k, k < l.length → 0 ≤ (l.getD k (0, 0, 0)).2.2) (h : ∀ k, k < l.length → (b.getD k (0, 0)).2 ≤ (b'.getD k (0, 0)).2) : ∀ k, k ≤ l.length → (Ln.mk x z l b).ph k ≤ (Ln.mk x z l b').ph k
  | 0, _ => Int.le_refl _
  | k + 1, hk => by
    have := ph_mono hd h k (by omega)
    have := Int.mul_le_mul_of_nonneg_left (h k (by omega)) (hd k (by omega))
    show (Ln.mk x z l b).ph k + (l.getD k (0, 0, 0)).2.2 * (b.getD k (0, 0)).2 ≤ (Ln.mk x z l b').ph k + (l.getD k (0, 0, 0)).2.2 * (b'.getD k (0, 0)).2
    omega
end
theorem sumI_le {f g : Nat → Int} : ∀ n : Nat, (∀ k, k < n → f k ≤ g k) → sumI f n ≤ sumI g n
  | 0, _ => Int.le_refl _
  | n + 1, h => by
    have h1 := sumI_le n (fun k hk => h k (by omega))
    have h2 := h n (by omega)
    show sumI f n + f n ≤ sumI g n + g n
    omega
theorem sq_abs {a m : Int} (h1 : -m ≤ a) (h2 : a ≤ m) : a * a ≤ m * m := by
  have h3 : 0 ≤ (m - a) * (m + a) := Int.mul_nonneg (by omega) (by omega)
  have h4 : (m - a) * (m + a) = m * m - a * a := by rw [Int.sub_mul, Int.mul_add, Int.mul_add, Int.mul_comm a m]; omega
  omega
theorem nr_le {p : Rg} {a : Int} (h1 : p.1 ≤ a) (h2 : a ≤ p.2) : nrI p * nrI p ≤ a * a := by
  rw [nr_sq (by omega)]
  split
  · rw [← Int.neg_mul_neg, ← Int.neg_mul_neg a]; exact sq_abs (by omega) (by omega)
  · split
    · exact sq_abs (by omega) (by omega)
    · exact sq_nonneg a
theorem fr_le {p : Rg} {a : Int} (h1 : p.1 ≤ a) (h2 : a ≤ p.2) : a * a ≤ frI p * frI p := sq_abs (by simp only [frI]; omega) (by simp only [frI]; omega)
/-- A longer pull makes no shorter link. -/
theorem lenF_mono {h z x y : Int} (hh : 1 ≤ h ∧ h ≤ 1000) (hz : 0 < z ∧ z ≤ 20000) (hx : -20000 ≤ x ∧ x ≤ 20000) (hy : -20000 ≤ y ∧ y ≤ 20000) (hxy : x * x ≤ y * y) : (lenF h z x).2 ≤ (lenF h z y).2 := by
  obtain ⟨_, _, b3, b4, b5, _, _, b8⟩ := len_bd hh hz hx
  obtain ⟨_, _, _, c4, c5, _, _, c8⟩ := len_bd hh hz hy
  have hs : sqF h z x ≤ sqF h z y := Int.mul_le_mul_of_nonneg_left (by omega) (sq_nonneg h)
  unfold lenF
  simp only [lnF] at *
  generalize sqF h z x = s at *
  generalize sqF h z y = t at *
  rw [Int.tdiv_eq_ediv_of_nonneg (by omega)] at *
  rw [Int.tdiv_eq_ediv_of_nonneg (by omega)] at *
  have hd : s / (z * z) ≤ t / (z * z) := Int.ediv_le_ediv b3.1 hs
  obtain ⟨q1, q2, q3⟩ := isq_spec (n := s / (z * z)) (by omega)
  obtain ⟨r1, r2, r3⟩ := isq_spec (n := t / (z * z)) (by omega)
  have e1 : s / (z * z) * (z * z) ≤ s := Int.ediv_mul_le _ (by omega)
  have e2 : t / (z * z) * (z * z) ≤ t := Int.ediv_mul_le _ (by omega)
  generalize isq (s / (z * z)) = p at *
  generalize isq (t / (z * z)) = q at *
  have hpq : p ≤ q := by
    rcases Int.lt_or_le q p with h1 | h1
    · have := Int.mul_le_mul (show q + 1 ≤ p by omega) (show q + 1 ≤ p by omega) (by omega) q1; omega
    · exact h1
  rcases Int.lt_or_eq_of_le hpq with h1 | rfl
  · split <;> split <;> omega
  · have e3 := Int.mul_le_mul_of_nonneg_right q2 (show 0 ≤ z * z by omega)
    split
    · split <;> omega
    · rename_i h2
      rw [if_neg (by omega)]
      omega
theorem lenF_le {h z x : Int} : (lenF h z x).1 ≤ (lenF h z x).2 := by
  unfold lenF; simp only; split <;> omega
end Go.Pw

set_option linter.unusedSimpArgs false
set_option linter.unusedVariables false
namespace Go.Pw
set_option maxRecDepth 2000
open Go Go.Proofs A1 A2 A3 A4
theorem cur_ok {n : Nat} {c : List Int} (h1 : c.length = n) (h2 : ∀ i, i < n → curOk (c.getD i 0)) : curE n c = 0 := by
  rw [curE, if_pos h1, eachE_ok]
  intro a ha
  obtain ⟨i, hi, rfl⟩ := List.getElem_of_mem ha
  have := h2 i (by omega)
  rw [List.getD_eq_getElem?_getD, List.getElem?_eq_getElem hi] at this
  rw [curErr, unl, unb_ok (by decide), decide_eq_true_eq]
  exact this
theorem box_ok {n : Nat} {b : List Rg} (h1 : b.length = n) (h2 : ∀ i, i < n → curOk (b.getD i (0, 0)).1 ∧ curOk (b.getD i (0, 0)).2 ∧ (b.getD i (0, 0)).1 ≤ (b.getD i (0, 0)).2) : (boxE n b).2 = 0 := by
  rw [boxE, if_pos h1, eachE_ok]
  intro a ha
  obtain ⟨i, hi, rfl⟩ := List.getElem_of_mem ha
  have := h2 i (by omega)
  rw [List.getD_eq_getElem?_getD, List.getElem?_eq_getElem hi] at this
  rw [rgErr, fstE_ok]
  simp only [List.mem_cons, List.not_mem_nil, or_false, forall_eq_or_imp, forall_eq, unl, unb_ok (show (2 : Int) ≠ 0 by decide), unb_ok (show (9 : Int) ≠ 0 by decide), decide_eq_true_eq]
  exact ⟨⟨this.1, this.2.1⟩, this.2.2⟩
theorem lb_ok {x z : Int} {l : List Lk} {b : List Rg} (h0 : LnOk x z l) (h : (boxE l.length b).2 = 0) : (lbE x z l b).2 = 0 := by
  unfold lbE; rw [if_pos (lineE_ok.2 h0)]; exact h
theorem opn_of {x z : Int} {l : List Lk} {c : List Int} (h0 : LnOk x z l) (h : curE l.length c = 0) : (opn x z l c).2 = 0 ∧ (opn x z l c).1 = opL x z l c ∧ (opL x z l c).Ok := by
  have h1 : (opn x z l c).2 = 0 := by rw [opn_err, if_pos (lineE_ok.2 h0)]; exact h
  have h2 := opn_ok h1
  refine ⟨h1, h2.1, ?_⟩
  have := h2.2
  rw [h2.1] at this
  exact this
/-- Currents in a box within a box. -/
structure Within3 (l : List Lk) (b inn : List Rg) (c : List Int) : Prop where
  lc : c.length = l.length
  li : inn.length = l.length
  h : ∀ k, k < l.length → (b.getD k (0, 0)).1 ≤ (inn.getD k (0, 0)).1 ∧ (inn.getD k (0, 0)).1 ≤ c.getD k 0 ∧ c.getD k 0 ≤ (inn.getD k (0, 0)).2 ∧ (inn.getD k (0, 0)).2 ≤ (b.getD k (0, 0)).2
section
variable {x z : Int} {l : List Lk} {b inn : List Rg} {c : List Int}
theorem Within3.errs (h : Within3 l b inn c) (hL : (Ln.mk x z l b).Ok) : curE l.length c = 0 ∧ (boxE l.length inn).2 = 0 := by
  have hr : ∀ k, k < l.length → (-50 ≤ (b.getD k (0, 0)).1 ∧ (b.getD k (0, 0)).1 ≤ 50) ∧ (-50 ≤ (b.getD k (0, 0)).2 ∧ (b.getD k (0, 0)).2 ≤ 50) ∧ (b.getD k (0, 0)).1 ≤ (b.getD k (0, 0)).2 := fun k hk => hL.rg hk
  exact ⟨cur_ok h.lc fun i hi => by have := h.h i hi; have := hr i hi; simp only [curOk]; omega,
    box_ok h.li fun i hi => by have := h.h i hi; have := hr i hi; simp only [curOk]; omega⟩
theorem Within3.ord (h : Within3 l b inn c) (hL : (Ln.mk x z l b).Ok) {k : Nat} (hk : k ≤ l.length) :
    (Ln.mk x z l b).pl k ≤ (Ln.mk x z l inn).pl k ∧ (Ln.mk x z l inn).pl k ≤ (opL x z l c).pl k ∧ (opL x z l c).pl k ≤ (Ln.mk x z l inn).ph k ∧ (Ln.mk x z l inn).ph k ≤ (Ln.mk x z l b).ph k := by
  have hd : ∀ k, k < l.length → 0 ≤ (l.getD k (0, 0, 0)).2.2 := fun k hk => (hL.lk hk).2.2.1
  have e : ∀ k, k < l.length → ((c.map dup).getD k (0, 0)) = (c.getD k 0, c.getD k 0) := fun k hk => dup_get (by rw [h.lc]; exact hk)
  refine ⟨pl_mono hd (fun k hk => (h.h k hk).1) k hk, pl_mono hd (fun k hk => by rw [e k hk]; exact (h.h k hk).2.1) k hk, ?_, ph_mono hd (fun k hk => (h.h k hk).2.2.2) k hk⟩
  rw [← opL_ph h.lc k hk]
  exact ph_mono hd (fun k hk => by rw [e k hk]; exact (h.h k hk).2.2.1) k hk
/-- Each pull and each square lies in its range. -/
theorem Within3.each (h : Within3 l b inn c) (hL : (Ln.mk x z l b).Ok) {k : Nat} (hk : k < l.length) :
    ((plF ⟨x, z, l, inn⟩ k).1 ≤ (tnF (opL x z l c) k).1 ∧ (tnF (opL x z l c) k).1 ≤ (plF ⟨x, z, l, inn⟩ k).2) ∧ (plF ⟨x, z, l, b⟩ k).1 ≤ (plF ⟨x, z, l, inn⟩ k).1 ∧ (plF ⟨x, z, l, inn⟩ k).2 ≤ (plF ⟨x, z, l, b⟩ k).2 ∧
    ((sbF ⟨x, z, l, b⟩ k).1 ≤ sqI (tnF (opL x z l c) k) ∧ sqI (tnF (opL x z l c) k) ≤ (sbF ⟨x, z, l, b⟩ k).2) ∧ plF (opL x z l c) k = ((tnF (opL x z l c) k).1, (tnF (opL x z l c) k).1) := by
  obtain ⟨h1, h2, h3, h4⟩ := h.ord hL (show k + 1 ≤ l.length by omega)
  have e : (Ln.mk x z l b).pz (k + 1) = (opL x z l c).pz (k + 1) := (opL_pz _).trans (opL_pz _).symm
  have n1 := nr_le (p := plF ⟨x, z, l, b⟩ k) (a := (opL x z l c).pl (k + 1)) (by simp only [plF]; omega) (by simp only [plF]; omega)
  have n2 := fr_le (p := plF ⟨x, z, l, b⟩ k) (a := (opL x z l c).pl (k + 1)) (by simp only [plF]; omega) (by simp only [plF]; omega)
  refine ⟨⟨h2, h3⟩, h1, h4, ⟨?_, ?_⟩, ?_⟩
  · show nrI _ * nrI _ + _ * _ ≤ (opL x z l c).pl (k + 1) * (opL x z l c).pl (k + 1) + (opL x z l c).pz (k + 1) * (opL x z l c).pz (k + 1)
    rw [e]; omega
  · show (opL x z l c).pl (k + 1) * (opL x z l c).pl (k + 1) + (opL x z l c).pz (k + 1) * (opL x z l c).pz (k + 1) ≤ frI _ * frI _ + _ * _
    rw [e]; omega
  · show ((opL x z l c).pl (k + 1), (opL x z l c).ph (k + 1)) = ((opL x z l c).pl (k + 1), (opL x z l c).pl (k + 1))
    rw [opL_ph h.lc (k + 1) (by omega)]
theorem ceil_mono {a b c : Int} (hc : 0 < c) (h : a ≤ b) : ceilI a c ≤ ceilI b c := by
  have := Int.ediv_le_ediv hc (show -b ≤ -a by omega)
  simp only [ceilI]; omega
/-- The laybacks and the lengths. -/
theorem Within3.all (h : Within3 l b inn c) (hT : (Ln.mk x z l b).Tight) :
    (laybk ⟨x, z, l, b⟩).1 ≤ (laybk ⟨x, z, l, inn⟩).1 ∧ (laybk ⟨x, z, l, inn⟩).2 ≤ (laybk ⟨x, z, l, b⟩).2 ∧ (laybk ⟨x, z, l, inn⟩).1 ≤ (laybk (opL x z l c)).1 ∧ (laybk (opL x z l c)).2 ≤ (laybk ⟨x, z, l, inn⟩).2 ∧
    (lenL lenF (opL x z l c)).2 ≤ sumI (enF lenF ⟨x, z, l, b⟩) l.length ∧ (lenL lenF (opL x z l c)).1 ≤ (lenL lenF (opL x z l c)).2 := by
  have hL := hT.toOk
  have hh : ∀ k, k < l.length → 1 ≤ (l.getD k (0, 0, 0)).1 ∧ (l.getD k (0, 0, 0)).1 ≤ 1000 := fun k hk => (hL.lk hk).1
  have e1 : ∀ k, (Ln.mk x z l inn).pz k = (Ln.mk x z l b).pz k := fun k => (opL_pz k).trans (opL_pz k).symm
  have e2 : ∀ k, (opL x z l c).pz k = (Ln.mk x z l b).pz k := fun k => (opL_pz k).trans (opL_pz k).symm
  have hz : ∀ k, k < l.length → 0 < (Ln.mk x z l b).pz (k + 1) ∧ (Ln.mk x z l b).pz (k + 1) ≤ 20000 := fun k hk => hT.z hk
  have ho := fun k (hk : k < l.length) => h.ord hL (k := k + 1) (by omega)
  have hbd : ∀ k, k < l.length → _ := fun k hk => hL.bd (k + 1) hk
  refine ⟨sumI_le _ fun k hk => ?_, sumI_le _ fun k hk => ?_, sumI_le _ fun k hk => ?_, sumI_le _ fun k hk => ?_, sumI_le _ fun k hk => ?_, sumI_le _ fun k hk => lenF_le⟩
  · show (l.getD k (0, 0, 0)).1 * _ / _ ≤ (l.getD k (0, 0, 0)).1 * _ / _
    rw [e1]
    exact Int.ediv_le_ediv (hz k hk).1 (Int.mul_le_mul_of_nonneg_left (ho k hk).1 (by have := hh k hk; omega))
  · show ceilI ((l.getD k (0, 0, 0)).1 * _) _ ≤ ceilI ((l.getD k (0, 0, 0)).1 * _) _
    rw [e1]
    exact ceil_mono (hz k hk).1 (Int.mul_le_mul_of_nonneg_left (ho k hk).2.2.2 (by have := hh k hk; omega))
  · show (l.getD k (0, 0, 0)).1 * _ / _ ≤ (l.getD k (0, 0, 0)).1 * _ / _
    rw [e1, e2]
    exact Int.ediv_le_ediv (hz k hk).1 (Int.mul_le_mul_of_nonneg_left (ho k hk).2.1 (by have := hh k hk; omega))
  · show ceilI ((l.getD k (0, 0, 0)).1 * (opL x z l c).ph (k + 1)) _ ≤ ceilI ((l.getD k (0, 0, 0)).1 * _) _
    rw [e1, e2, opL_ph h.lc (k + 1) hk]
    exact ceil_mono (hz k hk).1 (Int.mul_le_mul_of_nonneg_left (ho k hk).2.2.1 (by have := hh k hk; omega))
  · show (lenF (l.getD k (0, 0, 0)).1 ((opL x z l c).pz (k + 1)) ((opL x z l c).pl (k + 1))).2 ≤ (lenF (l.getD k (0, 0, 0)).1 ((Ln.mk x z l b).pz (k + 1)) (max (-(Ln.mk x z l b).pl (k + 1)) ((Ln.mk x z l b).ph (k + 1)))).2
    rw [e2]
    have h1 := ho k hk
    have h2 := hbd k hk
    exact lenF_mono (hh k hk) (hz k hk) (by omega) (by omega) (sq_abs (by omega) (by omega))
end
end Go.Pw

set_option linter.unusedSimpArgs false
set_option linter.unusedVariables false
namespace Go.Pw
set_option maxRecDepth 2000
open Go Go.Proofs A1 A2 A3 A4
/-- By how much two ranges are apart. -/
abbrev dsI (p q : Rg) : Int := max (p.1 - q.2) (q.1 - p.2)
theorem dsI_comm (p q : Rg) : dsI p q = dsI q p := by simp only [dsI]; omega
abbrev rgB (p : Rg) : Prop := (-100000 ≤ p.1 ∧ p.1 ≤ 100000) ∧ -100000 ≤ p.2 ∧ p.2 ≤ 100000
theorem C213 {p q : Rg} : (rgB p ∧ rgB q) → PFD Tryz.prog 213 [.agg [int p.1, int p.2], .agg [int q.1, int q.2]] (vi .i64 (max 0 (dsI p q))) := fun h => by
  refine pi1 fn213 ?_
  (repeat' first | (refine Owe.same ?_; first | refine Owe.o ?_ | refine Owe.mk ?_ ?_) | (refine Fork.same ?_; (first | refine fkD ?_ ?_ | refine fkN ?_ ?_ | refine fkM ?_ ?_) <;> intro h) | refine MvQ.stay ?_)
  (refine rqK rfl ?_; (repeat' first | exact rfl | (refine qS ?_; constructor)))
  simp only [dsI]; omega
/-- The error of a reading, of readings. -/
abbrev rdE (n : Nat) (o : Lk) : Int := fstE [unl (0 ≤ o.1 ∧ o.1 ≤ (n : Int) - 1) 6, unl ((-20000 ≤ o.2.1 ∧ o.2.1 ≤ 20000) ∧ -20000 ≤ o.2.2 ∧ o.2.2 ≤ 20000) 2, unl (o.2.1 ≤ o.2.2) 9]
def rdsE (n : Nat) (r : List Lk) : Int := if r.length ≤ 12 then (eachE (rdE n) 0 r).2 else 8
theorem rdE_eq (n : Nat) (o : Lk) : rdE n o = if 0 ≤ o.1 ∧ o.1 ≤ (n : Int) - 1 then (if (-20000 ≤ o.2.1 ∧ o.2.1 ≤ 20000) ∧ -20000 ≤ o.2.2 ∧ o.2.2 ≤ 20000 then (if o.2.1 ≤ o.2.2 then 0 else 9) else 2) else 6 := by
  simp only [rdE, fstE, unl_eq]
  split
  · rw [if_pos rfl]; split
    · rw [if_pos rfl]; split <;> simp
    · simp
  · simp
abbrev rdOk (n : Nat) (o : Lk) : Prop := (0 ≤ o.1 ∧ o.1 ≤ (n : Int) - 1) ∧ ((-20000 ≤ o.2.1 ∧ o.2.1 ≤ 20000) ∧ -20000 ≤ o.2.2 ∧ o.2.2 ≤ 20000) ∧ o.2.1 ≤ o.2.2
theorem rdE_ok {n : Nat} {o : Lk} : rdE n o = 0 ↔ rdOk n o := by
  rw [rdE_eq]
  constructor
  · intro h
    split at h
    · split at h
      · split at h
        · exact ⟨by assumption, by assumption, by assumption⟩
        · cases h
      · cases h
    · cases h
  · rintro ⟨h1, h2, h3⟩
    rw [if_pos h1, if_pos h2, if_pos h3]
theorem rdsE_ok {n : Nat} {r : List Lk} : rdsE n r = 0 ↔ r.length ≤ 12 ∧ ∀ i, i < r.length → rdOk n (r.getD i (0, 0, 0)) := by
  unfold rdsE
  split
  · rename_i h
    rw [eachE_ok]
    constructor
    · intro h1
      exact ⟨h, fun i hi => rdE_ok.1 (h1 _ (getD_mem _ hi))⟩
    · rintro ⟨_, h1⟩ o ho
      obtain ⟨i, hi, rfl⟩ := List.getElem_of_mem ho
      have := h1 i hi
      rw [List.getD_eq_getElem?_getD, List.getElem?_eq_getElem hi] at this
      exact rdE_ok.2 this
  · rename_i h
    exact ⟨fun h1 => (by cases h1), fun h1 => absurd h1.1 h⟩
abbrev rdI (L : Ln) (o : Lk) : Rg := plF L o.1.toNat
abbrev ap1 (L : Ln) (o : Lk) : Int := dsI o.2 (rdI L o)
/-- A reading, carried on to a later link. -/
abbrev wlk (L : Ln) (a b : Lk) : Rg := (a.2.1 + (L.pl (b.1.toNat + 1) - L.pl (a.1.toNat + 1)), a.2.2 + (L.ph (b.1.toNat + 1) - L.ph (a.1.toNat + 1)))
abbrev ap2' (L : Ln) (a b : Lk) : Int := dsI b.2 (wlk L a b)
abbrev ap2 (L : Ln) (a b : Lk) : Int := if b.1 < a.1 then ap2' L b a else ap2' L a b
theorem C134 {L : Ln} {o : Lk} : (L.Ok ∧ rdOk L.l.length o) → PFD Tryz.prog 134 [.agg L.v, .agg [int o.1, int o.2.1, int o.2.2]] (vi .i64 (max 0 (ap1 L o))) := fun ⟨hL, ho⟩ => by
  have hb := hL.bd (o.1.toNat + 1) (by omega)
  have c1 := C213 (p := o.2) (q := rdI L o) ⟨⟨by omega, by omega⟩, by simp only [rdI, plF]; omega⟩
  simp only [rdI, plF] at c1
  show PFD Tryz.prog 134 [.agg L.v, .agg [int o.1, int o.2.1, int o.2.2]] (vi .i64 (max 0 (dsI o.2 (L.pl (o.1.toNat + 1), L.ph (o.1.toNat + 1)))))
  generalize max 0 (dsI o.2 (L.pl (o.1.toNat + 1), L.ph (o.1.toNat + 1))) = W at *
  refine pi1 fn134 ?_
  (repeat' first | (refine Owe.same ?_; first | refine Owe.o ?_ | refine Owe.mk ?_ ?_) | (refine Fork.same ?_; (first | refine fkD ?_ ?_ | refine fkN ?_ ?_ | refine fkM ?_ ?_) <;> intro h) | refine MvQ.stay ?_)
  refine Ops.cs rfl rfl (CallS.of fn121 rfl ?_); refine Sat.keep [4, 3, 8] ?_; refine Sat.rf rfl rfl (CallS.of fn208 rfl ?_); (repeat' first | (refine Owe.same ?_; first | refine Owe.o ?_ | refine Owe.mk ?_ ?_) | (refine Fork.same ?_; (first | refine fkD ?_ ?_ | refine fkN ?_ ?_ | refine fkM ?_ ?_) <;> intro h) | refine MvQ.stay ?_)
  refine Sat.lp (fun k : Nat => ⟨[(24, vi .i64 k), (23, vi .i64 L.l.length), (22, .c (trs L.l)), (3, .c (.bp 5 0)), (1, .c (.bp 3 0)), (0, .c (.yd 4))], [(5, .box [int (L.pl k), int (L.ph k), int (L.pz k), int (L.hh k)]), (4, .lp [(4, .c (.bp 2 0)), (3, .c (.bp 1 0)), (8, .c (.fn 208 [3]))] .ready none (RR Tryz.prog 20 [9, 10] ra134 rb134)), (3, .box L.v), (2, .box [int 0]), (1, .box [int o.1, int o.2.1, int o.2.2])], 6⟩)
    (fun k => k ≤ o.1.toNat) (fun k => L.l.length - k) 0 [5] (Nat.zero_le _) ?_ ?_
  · (refine qis ?_ ?_ <;> (repeat' first | exact rfl | (refine qS ?_; constructor)))
  · intro k hk
    refine Fork.dec (fun hlt => ?_) (fun hlt => ?_)
    · have hlt : k < L.l.length := by omega
      have hrd := hL.round hlt
      by_cases he : (k : Int) = o.1
      · have hk2 : o.1.toNat = k := by omega
        rw [hk2] at c1
        (repeat' first | (refine Owe.same ?_; first | refine Owe.o ?_ | refine Owe.mk ?_ ?_) | (refine Fork.same ?_; (first | refine fkY ?_ | refine fkF ?_ | ((first | refine fkD ?_ ?_ | refine fkN ?_ ?_ | refine fkM ?_ ?_) <;> intro h))) | ((first | refine OpsL.same ?_ | refine OpsDL.same ?_); first | refine oK c1 rfl rfl rfl ?_) | refine MvQ.stay ?_)
        refine Ops.yd rfl rfl rfl rfl rfl ?_
        (repeat' first | (refine Owe.same ?_; first | refine Owe.o ?_ | refine Owe.mk ?_ ?_) | (refine Fork.same ?_; (first | refine fkY ?_ | refine fkF ?_ | ((first | refine fkD ?_ ?_ | refine fkN ?_ ?_ | refine fkM ?_ ?_) <;> intro h))) | ((first | refine OpsL.same ?_ | refine OpsDL.same ?_); first | refine oK c1 rfl rfl rfl ?_) | refine MvQ.stay ?_)
        refine And.intro rfl (Exists.intro _ (And.intro rfl ?_))
        (repeat' first | (refine Owe.same ?_; first | refine Owe.o ?_ | refine Owe.mk ?_ ?_) | (refine Fork.same ?_; (first | refine fkY ?_ | refine fkF ?_ | ((first | refine fkD ?_ ?_ | refine fkN ?_ ?_ | refine fkM ?_ ?_) <;> intro h))) | ((first | refine OpsL.same ?_ | refine OpsDL.same ?_); first | refine oK c1 rfl rfl rfl ?_) | refine MvQ.stay ?_)
        refine Exists.intro _ (Exists.intro _ (Exists.intro _ (And.intro rfl ?_)))
        (repeat' first | (refine Owe.same ?_; first | refine Owe.o ?_ | refine Owe.mk ?_ ?_) | (refine Fork.same ?_; (first | refine fkD ?_ ?_ | refine fkN ?_ ?_ | refine fkM ?_ ?_) <;> intro h) | refine MvQ.stay ?_)
        (refine rqK rfl ?_; (repeat' first | exact rfl | (refine qS ?_; constructor)))
      · (repeat' first | (refine Owe.same ?_; first | refine Owe.o ?_ | refine Owe.mk ?_ ?_) | (refine Fork.same ?_; (first | refine fkD ?_ ?_ | refine fkN ?_ ?_ | refine fkM ?_ ?_) <;> intro h) | refine MvQ.stay ?_)
        refine Ops.yd rfl rfl rfl rfl rfl ?_
        (repeat' first | (refine Owe.same ?_; first | refine Owe.o ?_ | refine Owe.mk ?_ ?_) | (refine Fork.same ?_; (first | refine fkD ?_ ?_ | refine fkN ?_ ?_ | refine fkM ?_ ?_) <;> intro h) | refine MvQ.stay ?_)
        refine And.intro rfl (Exists.intro _ (And.intro rfl ?_))
        (repeat' first | (refine Owe.same ?_; first | refine Owe.o ?_ | refine Owe.mk ?_ ?_) | (refine Fork.same ?_; (first | refine fkY ?_ | refine fkF ?_ | ((first | refine fkD ?_ ?_ | refine fkN ?_ ?_ | refine fkM ?_ ?_) <;> intro h))) | ((first | refine OpsL.same ?_ | refine OpsDL.same ?_); first | refine oK c1 rfl rfl rfl ?_) | refine MvQ.stay ?_)
        refine Exists.intro _ (Exists.intro _ (Exists.intro _ (And.intro rfl ?_)))
        (repeat' first | (refine Owe.same ?_; first | refine Owe.o ?_ | refine Owe.mk ?_ ?_) | (refine Fork.same ?_; (first | refine fkD ?_ ?_ | refine fkN ?_ ?_ | refine fkM ?_ ?_) <;> intro h) | refine MvQ.stay ?_)
        refine again (k + 1) [5] (by omega) (by omega) ?_
        (refine qis ?_ ?_ <;> (repeat' first | exact rfl | (refine qS ?_; constructor)))
    · exfalso; omega
theorem C135 {L : Ln} {a b : Lk} : (L.Ok ∧ rdOk L.l.length a ∧ rdOk L.l.length b) → PFD Tryz.prog 135 [.agg L.v, .agg [int a.1, int a.2.1, int a.2.2], .agg [int b.1, int b.2.1, int b.2.2]] (vi .i64 (max 0 (ap2 L a b))) := fun ⟨hL, ha, hb⟩ => by
  obtain ⟨a1, al, ah⟩ := a
  obtain ⟨b1, bl, bh⟩ := b
  obtain ⟨ia, rfl⟩ : ∃ n : Nat, a1 = n := ⟨a1.toNat, by have := ha.1; simp only at this; omega⟩
  obtain ⟨ib, rfl⟩ : ∃ n : Nat, b1 = n := ⟨b1.toNat, by have := hb.1; simp only at this; omega⟩
  simp only [rdOk] at ha hb
  have hLn := hL.k.n
  by_cases h : (ib : Int) < ia
  · rw [show ap2 L ((ia : Int), al, ah) ((ib : Int), bl, bh) = dsI (al, ah) (bl + (L.pl (ia + 1) - L.pl (ib + 1)), bh + (L.ph (ia + 1) - L.ph (ib + 1))) from if_pos h]
    have hA := hL.bd (ib + 1) (by omega)
    have hB := hL.bd (ia + 1) (by omega)
    have c1 := C213 (p := (bl + (L.pl (ia + 1) - L.pl (ib + 1)), bh + (L.ph (ia + 1) - L.ph (ib + 1)))) (q := (al, ah)) ⟨⟨by omega, by omega⟩, ⟨by omega, by omega⟩⟩
    rw [dsI_comm] at c1
    generalize max 0 (dsI (al, ah) (bl + (L.pl (ia + 1) - L.pl (ib + 1)), bh + (L.ph (ia + 1) - L.ph (ib + 1)))) = W at *
    change PFD Tryz.prog 135 [.agg L.v, .agg [int (ia : Int), int al, int ah], .agg [int (ib : Int), int bl, int bh]] _
    refine pi1 fn135 ?_
    (repeat' first | (refine Owe.same ?_; first | refine Owe.o ?_ | refine Owe.mk ?_ ?_) | (refine Fork.same ?_; (first | refine fkY ?_ | refine fkF ?_ | ((first | refine fkD ?_ ?_ | refine fkN ?_ ?_ | refine fkM ?_ ?_) <;> intro h))) | ((first | refine OpsL.same ?_ | refine OpsDL.same ?_); first | refine oK c1 rfl rfl rfl ?_) | refine MvQ.stay ?_)
    refine Sat.lp (fun j : Nat => ⟨[(7, vi .i64 j), (3, .c (.bp 0 0)), (4, .c (.bp 1 0)), (5, .c (.bp 2 0))], [(0, .box L.v), (1, .box [int ib, int (bl + (L.pl j - L.pl (ib + 1))), int (bh + (L.ph j - L.ph (ib + 1)))]), (2, .box [int ia, int al, int ah])], 3⟩)
      (fun j => ib + 1 ≤ j ∧ j ≤ ia + 1) (fun j => ia + 1 - j) (ib + 1) [0, 1, 2] ⟨Nat.le_refl _, by omega⟩ ?_ ?_
    · (refine qis ?_ ?_ <;> (repeat' first | exact rfl | (refine qS ?_; constructor)))
      all_goals omega
    · intro j hj
      refine Fork.dec (fun hlt => ?_) (fun hlt => ?_)
      · have hlt : j ≤ ia := by omega
        have hrd := hL.round (show j < L.l.length by omega)
        have e1 : L.pl (j + 1) = L.pl j + (L.l.getD j (0, 0, 0)).2.2 * (L.b.getD j (0, 0)).1 := rfl
        have e2 : L.ph (j + 1) = L.ph j + (L.l.getD j (0, 0, 0)).2.2 * (L.b.getD j (0, 0)).2 := rfl
        (repeat' first | (refine Owe.same ?_; first | refine Owe.o ?_ | refine Owe.mk ?_ ?_) | (refine Fork.same ?_; (first | refine fkY ?_ | refine fkF ?_ | ((first | refine fkD ?_ ?_ | refine fkN ?_ ?_ | refine fkM ?_ ?_) <;> intro h))) | ((first | refine OpsL.same ?_ | refine OpsDL.same ?_); first | refine oK c1 rfl rfl rfl ?_) | refine MvQ.stay ?_)
        refine again (j + 1) [0, 1, 2] ⟨by omega, by omega⟩ (by omega) ?_
        (refine qis ?_ ?_ <;> (repeat' first | exact rfl | (refine qS ?_; constructor)))
        · have f1 : L.pl (j + 1) = L.pl j + (L.l.getD (j : Int).toNat (0, 0, 0)).2.2 * (L.b.getD (j : Int).toNat (0, 0)).1 := rfl
          omega
        · have f2 : L.ph (j + 1) = L.ph j + (L.l.getD (j : Int).toNat (0, 0, 0)).2.2 * (L.b.getD (j : Int).toNat (0, 0)).2 := rfl
          omega
      · have : j = ia + 1 := by omega
        subst this
        (repeat' first | (refine Owe.same ?_; first | refine Owe.o ?_ | refine Owe.mk ?_ ?_) | (refine Fork.same ?_; (first | refine fkY ?_ | refine fkF ?_ | ((first | refine fkD ?_ ?_ | refine fkN ?_ ?_ | refine fkM ?_ ?_) <;> intro h))) | ((first | refine OpsL.same ?_ | refine OpsDL.same ?_); first | refine oK c1 rfl rfl rfl ?_) | refine MvQ.stay ?_)
        (refine rqK rfl ?_; (repeat' first | exact rfl | (refine qS ?_; constructor)))
  · rw [show ap2 L ((ia : Int), al, ah) ((ib : Int), bl, bh) = dsI (bl, bh) (al + (L.pl (ib + 1) - L.pl (ia + 1)), ah + (L.ph (ib + 1) - L.ph (ia + 1))) from if_neg h]
    have hA := hL.bd (ia + 1) (by omega)
    have hB := hL.bd (ib + 1) (by omega)
    have c1 := C213 (p := (al + (L.pl (ib + 1) - L.pl (ia + 1)), ah + (L.ph (ib + 1) - L.ph (ia + 1)))) (q := (bl, bh)) ⟨⟨by omega, by omega⟩, ⟨by omega, by omega⟩⟩
    rw [dsI_comm] at c1
    generalize max 0 (dsI (bl, bh) (al + (L.pl (ib + 1) - L.pl (ia + 1)), ah + (L.ph (ib + 1) - L.ph (ia + 1)))) = W at *
    change PFD Tryz.prog 135 [.agg L.v, .agg [int (ia : Int), int al, int ah], .agg [int (ib : Int), int bl, int bh]] _
    refine pi1 fn135 ?_
    (repeat' first | (refine Owe.same ?_; first | refine Owe.o ?_ | refine Owe.mk ?_ ?_) | (refine Fork.same ?_; (first | refine fkY ?_ | refine fkF ?_ | ((first | refine fkD ?_ ?_ | refine fkN ?_ ?_ | refine fkM ?_ ?_) <;> intro h))) | ((first | refine OpsL.same ?_ | refine OpsDL.same ?_); first | refine oK c1 rfl rfl rfl ?_) | refine MvQ.stay ?_)
    refine Sat.lp (fun j : Nat => ⟨[(7, vi .i64 j), (3, .c (.bp 0 0)), (4, .c (.bp 1 0)), (5, .c (.bp 2 0))], [(0, .box L.v), (1, .box [int ia, int (al + (L.pl j - L.pl (ia + 1))), int (ah + (L.ph j - L.ph (ia + 1)))]), (2, .box [int ib, int bl, int bh])], 3⟩)
      (fun j => ia + 1 ≤ j ∧ j ≤ ib + 1) (fun j => ib + 1 - j) (ia + 1) [0, 1, 2] ⟨Nat.le_refl _, by omega⟩ ?_ ?_
    · (refine qis ?_ ?_ <;> (repeat' first | exact rfl | (refine qS ?_; constructor)))
      all_goals omega
    · intro j hj
      refine Fork.dec (fun hlt => ?_) (fun hlt => ?_)
      · have hlt : j ≤ ib := by omega
        have hrd := hL.round (show j < L.l.length by omega)
        have e1 : L.pl (j + 1) = L.pl j + (L.l.getD j (0, 0, 0)).2.2 * (L.b.getD j (0, 0)).1 := rfl
        have e2 : L.ph (j + 1) = L.ph j + (L.l.getD j (0, 0, 0)).2.2 * (L.b.getD j (0, 0)).2 := rfl
        (repeat' first | (refine Owe.same ?_; first | refine Owe.o ?_ | refine Owe.mk ?_ ?_) | (refine Fork.same ?_; (first | refine fkY ?_ | refine fkF ?_ | ((first | refine fkD ?_ ?_ | refine fkN ?_ ?_ | refine fkM ?_ ?_) <;> intro h))) | ((first | refine OpsL.same ?_ | refine OpsDL.same ?_); first | refine oK c1 rfl rfl rfl ?_) | refine MvQ.stay ?_)
        refine again (j + 1) [0, 1, 2] ⟨by omega, by omega⟩ (by omega) ?_
        (refine qis ?_ ?_ <;> (repeat' first | exact rfl | (refine qS ?_; constructor)))
        · have f1 : L.pl (j + 1) = L.pl j + (L.l.getD (j : Int).toNat (0, 0, 0)).2.2 * (L.b.getD (j : Int).toNat (0, 0)).1 := rfl
          omega
        · have f2 : L.ph (j + 1) = L.ph j + (L.l.getD (j : Int).toNat (0, 0, 0)).2.2 * (L.b.getD (j : Int).toNat (0, 0)).2 := rfl
          omega
      · have : j = ib + 1 := by omega
        subst this
        (repeat' first | (refine Owe.same ?_; first | refine Owe.o ?_ | refine Owe.mk ?_ ?_) | (refine Fork.same ?_; (first | refine fkY ?_ | refine fkF ?_ | ((first | refine fkD ?_ ?_ | refine fkN ?_ ?_ | refine fkM ?_ ?_) <;> intro h))) | ((first | refine OpsL.same ?_ | refine OpsDL.same ?_); first | refine oK c1 rfl rfl rfl ?_) | refine MvQ.stay ?_)
        (refine rqK rfl ?_; (repeat' first | exact rfl | (refine qS ?_; constructor)))
/-- The error of a line, a box and readings. -/
abbrev opR (x z : Int) (l : List Lk) (b : List Rg) (r : List Lk) : Int := if (lbE x z l b).2 = 0 then rdsE l.length r else (lbE x z l b).2
theorem C131 {x z : Int} {l : List Lk} {b : List Rg} {r : List Lk} : (l.length ≤ 1000000 ∧ b.length ≤ 1000000 ∧ r.length ≤ 1000000) → PFD Tryz.prog 131 [.agg [int x, int z, trs l], .c (prs b), .c (trs r)] (.tup [.agg (Ln.mk x z l b).v, vi .i64 (opR x z l b r)]) := fun hl => by
  have c1 := C120 (x := x) (z := z) (l := l) (b := b) (by omega)
  by_cases h0 : (lbE x z l b).2 = 0
  · rw [opR, if_pos h0]
    by_cases h12 : r.length ≤ 12
    · have e0 : fstE [(lbE x z l b).2, unb (decide ((r.length : Int) ≤ 12)) 8] = 0 := by rw [h0, decide_eq_true (by omega)]; rfl
      rw [rdsE, if_pos h12]
      refine pi2 fn131 ?_
      (repeat' first | (refine Owe.same ?_; first | refine Owe.o ?_ | refine Owe.mk ?_ ?_) | (refine Fork.same ?_; (first | refine fkD ?_ ?_ | refine fkN ?_ ?_ | refine fkM ?_ ?_) <;> intro h) | ((first | refine OpsL.same ?_ | refine OpsDL.same ?_); first | refine oK c1 rfl rfl rfl ?_ | refine oK C125 rfl rfl rfl ?_) | refine MvQ.stay ?_)
      (repeat' first | (refine Owe.same ?_; first | refine Owe.o ?_ | refine Owe.mk ?_ ?_) | (refine Fork.same ?_; (first | refine fkD ?_ ?_ | refine fkN ?_ ?_ | refine fkM ?_ ?_) <;> intro h) | ((first | refine OpsL.same ?_ | refine OpsDL.same ?_); first | refine pK C124 rfl rfl ?_) | refine MvQ.stay ?_)
      · exact absurd e0 h
      refine Ops.cs rfl rfl (CallS.of fn211 rfl ?_)
      (repeat' first | (refine Owe.same ?_; first | refine Owe.o ?_ | refine Owe.mk ?_ ?_) | (refine Fork.same ?_; (first | refine fkD ?_ ?_ | refine fkN ?_ ?_ | refine fkM ?_ ?_) <;> intro h) | refine MvQ.stay ?_)
      refine Sat.lp (fun k : Nat => ⟨[(11, vi .i64 k), (10, vi .i64 r.length), (9, .c (trs r)), (1, .c (.fn 212 [0]))], [(2, .box (Ln.mk x z l b).v), (1, .box [int 0, int 0, .d (.v (.slice none 0 0)), .d (.v (.slice none 0 0))]), (0, .box [int x, int z, trs l])], 3⟩)
        (fun k => k ≤ r.length ∧ eachE (rdE l.length) 0 r = eachE (rdE l.length) k (r.drop k)) (fun k => r.length - k) 0 [] ⟨Nat.zero_le _, rfl⟩ ?_ ?_
      · (refine qis ?_ ?_ <;> (repeat' first | exact rfl | (refine qS ?_; constructor)))
      · intro k hk
        refine Fork.dec (fun hlt => ?_) (fun hlt => ?_)
        · have hlt : k < r.length := by omega
          have e2 := eachE_drop (rdE l.length) (0, 0, 0) r k hlt
          rw [← hk.2] at e2
          (repeat' first | (refine Owe.same ?_; first | refine Owe.o ?_ | refine Owe.mk ?_ ?_) | (refine Fork.same ?_; (first | refine fkD ?_ ?_ | refine fkN ?_ ?_ | refine fkM ?_ ?_) <;> intro h) | refine MvQ.stay ?_)
          refine Ops.cs rfl rfl (CallS.of fn212 rfl ?_)
          have cB := C187 (n := (r.getD k (0, 0, 0)).2.1) (m := 20000) (by decide)
          by_cases hB : -20000 ≤ (r.getD k (0, 0, 0)).2.1 ∧ (r.getD k (0, 0, 0)).2.1 ≤ 20000
          · rw [decide_eq_true hB] at cB
            have ev : fstE [unb (decide (0 ≤ (r.getD k (0, 0, 0)).1 ∧ (r.getD k (0, 0, 0)).1 ≤ (l.length : Int) - 1)) 6, unb (decide (-20000 ≤ (r.getD k (0, 0, 0)).2.2 ∧ (r.getD k (0, 0, 0)).2.2 ≤ 20000)) 2, unb (decide ((r.getD k (0, 0, 0)).2.1 ≤ (r.getD k (0, 0, 0)).2.2)) 9] = rdE l.length (r.getD k (0, 0, 0)) := by
              simp only [rdE, unl]
              rw [show decide ((-20000 ≤ (r.getD k (0, 0, 0)).2.1 ∧ (r.getD k (0, 0, 0)).2.1 ≤ 20000) ∧ -20000 ≤ (r.getD k (0, 0, 0)).2.2 ∧ (r.getD k (0, 0, 0)).2.2 ≤ 20000) = (decide (-20000 ≤ (r.getD k (0, 0, 0)).2.2 ∧ (r.getD k (0, 0, 0)).2.2 ≤ 20000)) by rw [Bool.eq_iff_iff]; simp only [decide_eq_true_eq]; omega]
            (repeat' first | (refine Owe.same ?_; first | refine Owe.o ?_ | refine Owe.mk ?_ ?_) | (refine Fork.same ?_; (first | refine fkY ?_ | refine fkF ?_ | ((first | refine fkD ?_ ?_ | refine fkN ?_ ?_ | refine fkM ?_ ?_) <;> intro h))) | ((first | refine OpsL.same ?_ | refine OpsDL.same ?_); first | refine oK C128 rfl rfl rfl ?_ | refine oK cB rfl rfl rfl ?_ | refine oK C187 rfl rfl rfl ?_ | refine oK C125 rfl rfl rfl ?_) | refine MvQ.stay ?_)
            (repeat' first | (refine Owe.same ?_; first | refine Owe.o ?_ | refine Owe.mk ?_ ?_) | (refine Fork.same ?_; (first | refine fkD ?_ ?_ | refine fkN ?_ ?_ | refine fkM ?_ ?_) <;> intro h) | ((first | refine OpsL.same ?_ | refine OpsDL.same ?_); first | refine pK C124 rfl rfl ?_) | refine MvQ.stay ?_)
            · have h : ¬ rdE l.length (r.getD k (0, 0, 0)) = 0 := fun h9 => h (ev.trans h9)
              rw [if_neg h] at e2
              rw [e2]
              (refine rqK rfl ?_; (repeat' first | exact rfl | (refine qS ?_; constructor)))
              exact ev
            · have h : rdE l.length (r.getD k (0, 0, 0)) = 0 := ev.symm.trans h
              rw [if_pos h] at e2
              refine again (k + 1) [] ⟨hlt, e2⟩ (by omega) ?_
              (refine qis ?_ ?_ <;> (repeat' first | exact rfl | (refine qS ?_; constructor)))
          · rw [decide_eq_false hB] at cB
            have ev : fstE [unb (decide (0 ≤ (r.getD k (0, 0, 0)).1 ∧ (r.getD k (0, 0, 0)).1 ≤ (l.length : Int) - 1)) 6, unb false 2, unb (decide ((r.getD k (0, 0, 0)).2.1 ≤ (r.getD k (0, 0, 0)).2.2)) 9] = rdE l.length (r.getD k (0, 0, 0)) := by
              simp only [rdE, unl]
              rw [show decide ((-20000 ≤ (r.getD k (0, 0, 0)).2.1 ∧ (r.getD k (0, 0, 0)).2.1 ≤ 20000) ∧ -20000 ≤ (r.getD k (0, 0, 0)).2.2 ∧ (r.getD k (0, 0, 0)).2.2 ≤ 20000) = false from decide_eq_false (fun h => hB h.1)]
            (repeat' first | (refine Owe.same ?_; first | refine Owe.o ?_ | refine Owe.mk ?_ ?_) | (refine Fork.same ?_; (first | refine fkY ?_ | refine fkF ?_ | ((first | refine fkD ?_ ?_ | refine fkN ?_ ?_ | refine fkM ?_ ?_) <;> intro h))) | ((first | refine OpsL.same ?_ | refine OpsDL.same ?_); first | refine oK C128 rfl rfl rfl ?_ | refine oK cB rfl rfl rfl ?_ | refine oK C187 rfl rfl rfl ?_ | refine oK C125 rfl rfl rfl ?_) | refine MvQ.stay ?_)
            (repeat' first | (refine Owe.same ?_; first | refine Owe.o ?_ | refine Owe.mk ?_ ?_) | (refine Fork.same ?_; (first | refine fkD ?_ ?_ | refine fkN ?_ ?_ | refine fkM ?_ ?_) <;> intro h) | ((first | refine OpsL.same ?_ | refine OpsDL.same ?_); first | refine pK C124 rfl rfl ?_) | refine MvQ.stay ?_)
            · have h : ¬ rdE l.length (r.getD k (0, 0, 0)) = 0 := fun h9 => h (ev.trans h9)
              rw [if_neg h] at e2
              rw [e2]
              (refine rqK rfl ?_; (repeat' first | exact rfl | (refine qS ?_; constructor)))
              exact ev
            · have h : rdE l.length (r.getD k (0, 0, 0)) = 0 := ev.symm.trans h
              rw [if_pos h] at e2
              refine again (k + 1) [] ⟨hlt, e2⟩ (by omega) ?_
              (refine qis ?_ ?_ <;> (repeat' first | exact rfl | (refine qS ?_; constructor)))
        · (repeat' first | (refine Owe.same ?_; first | refine Owe.o ?_ | refine Owe.mk ?_ ?_) | (refine Fork.same ?_; (first | refine fkD ?_ ?_ | refine fkN ?_ ?_ | refine fkM ?_ ?_) <;> intro h) | refine MvQ.stay ?_)
          rw [hk.2, List.drop_of_length_le (by omega)]
          (refine rqK rfl ?_; (repeat' first | exact rfl | (refine qS ?_; constructor)))
    · rw [rdsE, if_neg h12]
      have e0 : fstE [(lbE x z l b).2, unb (decide ((r.length : Int) ≤ 12)) 8] = 8 := by rw [h0, decide_eq_false (by omega)]; rfl
      refine pi2 fn131 ?_
      (repeat' first | (refine Owe.same ?_; first | refine Owe.o ?_ | refine Owe.mk ?_ ?_) | (refine Fork.same ?_; (first | refine fkD ?_ ?_ | refine fkN ?_ ?_ | refine fkM ?_ ?_) <;> intro h) | ((first | refine OpsL.same ?_ | refine OpsDL.same ?_); first | refine oK c1 rfl rfl rfl ?_ | refine oK C125 rfl rfl rfl ?_) | refine MvQ.stay ?_)
      (repeat' first | (refine Owe.same ?_; first | refine Owe.o ?_ | refine Owe.mk ?_ ?_) | (refine Fork.same ?_; (first | refine fkD ?_ ?_ | refine fkN ?_ ?_ | refine fkM ?_ ?_) <;> intro h) | ((first | refine OpsL.same ?_ | refine OpsDL.same ?_); first | refine pK C124 rfl rfl ?_) | refine MvQ.stay ?_)
      · (refine rqK rfl ?_; (repeat' first | exact rfl | (refine qS ?_; constructor)))
        exact e0
      · rw [e0] at h
        exact absurd h (by decide)
  · rw [opR, if_neg h0]
    have e0 : fstE [(lbE x z l b).2, unb (decide ((r.length : Int) ≤ 12)) 8] = (lbE x z l b).2 := by simp only [fstE, if_neg h0]
    refine pi2 fn131 ?_
    (repeat' first | (refine Owe.same ?_; first | refine Owe.o ?_ | refine Owe.mk ?_ ?_) | (refine Fork.same ?_; (first | refine fkD ?_ ?_ | refine fkN ?_ ?_ | refine fkM ?_ ?_) <;> intro h) | ((first | refine OpsL.same ?_ | refine OpsDL.same ?_); first | refine oK c1 rfl rfl rfl ?_ | refine oK C125 rfl rfl rfl ?_) | refine MvQ.stay ?_)
    (repeat' first | (refine Owe.same ?_; first | refine Owe.o ?_ | refine Owe.mk ?_ ?_) | (refine Fork.same ?_; (first | refine fkD ?_ ?_ | refine fkN ?_ ?_ | refine fkM ?_ ?_) <;> intro h) | ((first | refine OpsL.same ?_ | refine OpsDL.same ?_); first | refine pK C124 rfl rfl ?_) | refine MvQ.stay ?_)
    · (refine rqK rfl ?_; (repeat' first | exact rfl | (refine qS ?_; constructor)))
      exact e0
    · rw [e0] at h
      exact absurd h h0
end Go.Pw

set_option linter.unusedSimpArgs false
set_option linter.unusedVariables false
namespace Go.Pw
set_option maxRecDepth 2000
open Go Go.Proofs A1 A2 A3 A4
theorem least {q : Nat → Prop} : ∀ n : Nat, (∀ i, i < n → ¬ q i) ∨ ∃ i, i < n ∧ q i ∧ ∀ j, j < i → ¬ q j
  | 0 => .inl fun i hi => absurd hi (Nat.not_lt_zero _)
  | n + 1 => by
    rcases least (q := q) n with h | ⟨i, hi, h1, h2⟩
    · by_cases hn : q n
      · exact .inr ⟨n, Nat.lt_succ_self n, hn, h⟩
      · refine .inl fun i hi => ?_
        rcases Nat.lt_succ_iff_lt_or_eq.1 hi with h1 | rfl
        · exact h i h1
        · exact hn
    · exact .inr ⟨i, by omega, h1, h2⟩
/-- A list is the first contradiction: of one reading, or else of two. -/
inductive Con (p : Nat → Prop) (q : Nat → Nat → Prop) (n : Nat) : List Int → Prop
  | one (i : Nat) (hi : i < n) (h : p i) (hb : ∀ j, j < i → ¬ p j) : Con p q n [(i : Int)]
  | two (i k : Nat) (hn : ∀ j, j < n → ¬ p j) (hik : i < k) (hk : k < n) (h : q i k) (hi : ∀ i', i' < i → ∀ k', i' < k' → k' < n → ¬ q i' k') (hkb : ∀ k', i < k' → k' < k → ¬ q i k') : Con p q n [(i : Int), (k : Int)]
  | non (hn : ∀ j, j < n → ¬ p j) (h : ∀ i k, i < k → k < n → ¬ q i k) : Con p q n []
theorem Con.exists (p : Nat → Prop) (q : Nat → Nat → Prop) (n : Nat) : ∃ s, Con p q n s := by
  rcases least (q := p) n with h | ⟨i, hi, h1, h2⟩
  · rcases least (q := fun i => ∃ k, i < k ∧ k < n ∧ q i k) n with g | ⟨i, hi, ⟨k0, g0, g1, g2⟩, g3⟩
    · exact ⟨_, .non h fun i k hik hk hq => g i (by omega) ⟨k, hik, hk, hq⟩⟩
    · rcases least (q := fun k => i < k ∧ q i k) n with f | ⟨k, hk, ⟨f1, f2⟩, f3⟩
      · exact absurd ⟨g0, g2⟩ (f k0 g1)
      · exact ⟨_, .two i k h f1 hk f2 (fun i' hi' k' h1 h2 h3 => g3 i' hi' ⟨k', h1, h2, h3⟩) fun k' h1 h2 h3 => f3 k' h2 ⟨h1, h3⟩⟩
  · exact ⟨_, .one i hi h1 h2⟩
theorem Con.unique {p : Nat → Prop} {q : Nat → Nat → Prop} {n : Nat} {s t : List Int} (h : Con p q n s) (g : Con p q n t) : s = t := by
  cases h with
  | one i hi h hb =>
    cases g with
    | one j hj g gb =>
      rcases Nat.lt_trichotomy i j with e | rfl | e
      · exact absurd h (gb i e)
      · rfl
      · exact absurd g (hb j e)
    | two _ _ gn => exact absurd h (gn i hi)
    | non gn => exact absurd h (gn i hi)
  | two i k hn hik hk h hi hkb =>
    cases g with
    | one j hj g gb => exact absurd g (hn j hj)
    | two j m gn gjm gm g gi gmb =>
      rcases Nat.lt_trichotomy i j with e | rfl | e
      · exact absurd h (gi i e k hik hk)
      · rcases Nat.lt_trichotomy k m with e | rfl | e
        · exact absurd h (gmb k hik e)
        · rfl
        · exact absurd g (hkb m gjm e)
      · exact absurd g (hi j e m gjm gm)
    | non gn g => exact absurd h (g i k hik hk)
  | non hn h =>
    cases g with
    | one j hj g gb => exact absurd g (hn j hj)
    | two j m gn gjm gm g gi gmb => exact absurd g (h j m gjm gm)
    | non => rfl
theorem Con.len {p : Nat → Prop} {q : Nat → Nat → Prop} {n : Nat} {s : List Int} (h : Con p q n s) : s.length ≤ 2 := by cases h <;> simp
abbrev rd (r : List Lk) (i : Nat) : Lk := r.getD i (0, 0, 0)
abbrev CnR (L : Ln) (r : List Lk) (s : List Int) : Prop := Con (fun i => 0 < ap1 L (rd r i)) (fun i k => 0 < ap2 L (rd r i) (rd r k)) r.length s
theorem opR_ok {x z : Int} {l : List Lk} {b : List Rg} {r : List Lk} (h : opR x z l b r = 0) : (Ln.mk x z l b).Ok ∧ r.length ≤ 12 ∧ ∀ i, i < r.length → rdOk l.length (rd r i) := by
  simp only [opR] at h
  split at h
  · rename_i h0
    have := rdsE_ok.1 h
    exact ⟨lbE_ok h0, this.1, this.2⟩
  · rename_i h0; exact absurd h h0
theorem C55 {x z : Int} {l : List Lk} {b : List Rg} {r : List Lk} {s : List Int} : ((l.length ≤ 1000000 ∧ b.length ≤ 1000000 ∧ r.length ≤ 1000000) ∧ (opR x z l b r = 0 → CnR ⟨x, z, l, b⟩ r s)) →
    PFD Tryz.prog 55 [.agg [int x, int z, trs l], .c (prs b), .c (trs r)] (.tup [.c (ints (orE (opR x z l b r) s)), vi .i64 (if opR x z l b r = 0 then (if s = [] then 12 else 0) else opR x z l b r)]) := fun ⟨hl, hs⟩ => by
  have c1 := C131 (x := x) (z := z) hl
  by_cases h0 : opR x z l b r = 0
  · obtain ⟨hL, hr, ho⟩ := opR_ok h0
    replace hs := hs h0
    rw [orE, if_pos h0, if_pos h0]
    rw [h0] at c1
    have ca := fun (i : Nat) (hi : i < r.length) => C134 (o := rd r i) ⟨hL, ho i hi⟩
    have cb := fun (i k : Nat) (hi : i < r.length) (hk : k < r.length) => C135 (a := rd r i) (b := rd r k) ⟨hL, ho i hi, ho k hk⟩
    simp only [CnR] at hs
    generalize hp : (fun i => ap1 ⟨x, z, l, b⟩ (rd r i)) = p at *
    generalize hq : (fun i k => ap2 ⟨x, z, l, b⟩ (rd r i) (rd r k)) = q at *
    replace ca : ∀ i, i < r.length → PFD Tryz.prog 134 [.agg [int x, int z, trs l, prs b], .agg [int (rd r i).1, int (rd r i).2.1, int (rd r i).2.2]] (vi .i64 (max 0 (p i))) := fun i hi => by rw [← hp]; exact ca i hi
    replace cb : ∀ i k, i < r.length → k < r.length → PFD Tryz.prog 135 [.agg [int x, int z, trs l, prs b], .agg [int (rd r i).1, int (rd r i).2.1, int (rd r i).2.2], .agg [int (rd r k).1, int (rd r k).2.1, int (rd r k).2.2]] (vi .i64 (max 0 (q i k))) := fun i k hi hk => by rw [← hq]; exact cb i k hi hk
    replace hs : Con (fun i => 0 < p i) (fun i k => 0 < q i k) r.length s := by rw [← hp, ← hq]; exact hs
    clear hp hq ho hL h0
    change PFD Tryz.prog 131 _ (.tup [.agg [int x, int z, trs l, prs b], vi .i64 0]) at c1
    refine pi2 fn55 ?_
    (repeat' first | (refine Owe.same ?_; first | refine Owe.o ?_ | refine Owe.mk ?_ ?_) | (refine Fork.same ?_; (first | refine fkY ?_ | refine fkF ?_ | ((first | refine fkD ?_ ?_ | refine fkN ?_ ?_ | refine fkM ?_ ?_) <;> intro h))) | ((first | refine OpsL.same ?_ | refine OpsDL.same ?_); first | refine oK c1 rfl rfl rfl ?_) | refine MvQ.stay ?_)
    refine Ops.cs rfl rfl (CallS.of fn132 rfl ?_)
    (repeat' first | (refine Owe.same ?_; first | refine Owe.o ?_ | refine Owe.mk ?_ ?_) | (refine Fork.same ?_; (first | refine fkD ?_ ?_ | refine fkN ?_ ?_ | refine fkM ?_ ?_) <;> intro h) | refine MvQ.stay ?_)
    refine Sat.lp (fun i : Nat => ⟨[(8, vi .i64 i), (7, vi .i64 r.length), (6, .c (trs r)), (0, .c (trs r)), (1, .c (.fn 133 [1]))], [(1, .box [int x, int z, trs l, prs b]), (0, .box [int x, int z, trs l])], 2⟩)
      (fun i => i ≤ r.length ∧ ∀ j, j < i → ¬ 0 < p j) (fun i => r.length - i) 0 [] ⟨Nat.zero_le _, fun j h => absurd h (Nat.not_lt_zero _)⟩ ?_ ?_
    · (refine qis ?_ ?_ <;> (repeat' first | exact rfl | (refine qS ?_; constructor)))
    · intro i hi
      refine Fork.dec (fun hlt => ?_) (fun hlt => ?_)
      · have hlt : i < r.length := by omega
        have c2 := ca i hlt
        (repeat' first | (refine Owe.same ?_; first | refine Owe.o ?_ | refine Owe.mk ?_ ?_) | (refine Fork.same ?_; (first | refine fkD ?_ ?_ | refine fkN ?_ ?_ | refine fkM ?_ ?_) <;> intro h) | refine MvQ.stay ?_)
        refine Ops.cs rfl rfl (CallS.of fn133 rfl ?_)
        (repeat' first | (refine Owe.same ?_; first | refine Owe.o ?_ | refine Owe.mk ?_ ?_) | (refine Fork.same ?_; (first | refine fkY ?_ | refine fkF ?_ | ((first | refine fkD ?_ ?_ | refine fkN ?_ ?_ | refine fkM ?_ ?_) <;> intro h))) | ((first | refine OpsL.same ?_ | refine OpsDL.same ?_); first | refine oK c2 rfl rfl rfl ?_) | refine MvQ.stay ?_)
        · have h : 0 < p i := by have h : 0 < max 0 (p i) := h; omega
          rw [hs.unique (.one i hlt h hi.2)]
          (refine rqK rfl ?_; (repeat' first | exact rfl | (refine qS ?_; constructor)))
        · have h : ¬ 0 < p i := by have h : ¬ 0 < max 0 (p i) := h; omega
          refine again (i + 1) [] ⟨hlt, fun j hj => ?_⟩ (by omega) ?_
          · rcases Nat.lt_succ_iff_lt_or_eq.1 hj with h3 | rfl
            · exact hi.2 j h3
            · exact h
          · (refine qis ?_ ?_ <;> (repeat' first | exact rfl | (refine qS ?_; constructor)))
      · have : i = r.length := by omega
        subst this
        have hn := hi.2
        (repeat' first | (refine Owe.same ?_; first | refine Owe.o ?_ | refine Owe.mk ?_ ?_) | (refine Fork.same ?_; (first | refine fkY ?_ | refine fkF ?_ | ((first | refine fkD ?_ ?_ | refine fkN ?_ ?_ | refine fkM ?_ ?_) <;> intro h))) | ((first | refine OpsL.same ?_ | refine OpsDL.same ?_); first | refine oK c1 rfl rfl rfl ?_) | refine MvQ.stay ?_)
        refine Sat.lp (fun i : Nat => ⟨[(33, vi .i64 i), (32, vi .i64 r.length), (31, .c (trs r)), (2, .c (trs r)), (8, .c (.bp 1 0))], [(1, .box [int x, int z, trs l, prs b]), (0, .box [int x, int z, trs l])], 2⟩)
          (fun i => i ≤ r.length ∧ ∀ i', i' < i → ∀ k', i' < k' → k' < r.length → ¬ 0 < q i' k') (fun i => r.length - i) 0 [0, 1] ⟨Nat.zero_le _, fun j h => absurd h (Nat.not_lt_zero _)⟩ ?_ ?_
        · (refine qis ?_ ?_ <;> (repeat' first | exact rfl | (refine qS ?_; constructor)))
        · intro i hi
          refine Fork.dec (fun hlt => ?_) (fun hlt => ?_)
          · have hlt : i < r.length := by omega
            (repeat' first | (refine Owe.same ?_; first | refine Owe.o ?_ | refine Owe.mk ?_ ?_) | (refine Fork.same ?_; (first | refine fkD ?_ ?_ | refine fkN ?_ ?_ | refine fkM ?_ ?_) <;> intro h) | refine MvQ.stay ?_)
            refine Sat.lp (fun k : Nat => ⟨[(13, vi .i64 k), (11, vi .i64 i), (12, .c (.bp 2 0)), (33, vi .i64 i), (32, vi .i64 r.length), (31, .c (trs r)), (2, .c (trs r)), (8, .c (.bp 1 0))], [(2, .box [int (rd r i).1, int (rd r i).2.1, int (rd r i).2.2]), (1, .box [int x, int z, trs l, prs b]), (0, .box [int x, int z, trs l])], 3⟩)
              (fun k => i + 1 ≤ k ∧ k ≤ r.length ∧ ∀ k', i < k' → k' < k → ¬ 0 < q i k') (fun k => r.length - k) (i + 1) [0, 1, 2] ⟨Nat.le_refl _, hlt, fun k' h1 h2 => by omega⟩ ?_ ?_
            · (refine qis ?_ ?_ <;> (repeat' first | exact rfl | (refine qS ?_; constructor)))
            · intro k hk
              refine Fork.dec (fun hlt2 => ?_) (fun hlt2 => ?_)
              · have hlt2 : k < r.length := by omega
                have c3 := cb i k hlt hlt2
                (repeat' first | (refine Owe.same ?_; first | refine Owe.o ?_ | refine Owe.mk ?_ ?_) | (refine Fork.same ?_; (first | refine fkY ?_ | refine fkF ?_ | ((first | refine fkD ?_ ?_ | refine fkN ?_ ?_ | refine fkM ?_ ?_) <;> intro h))) | ((first | refine OpsL.same ?_ | refine OpsDL.same ?_); first | refine oK c3 rfl rfl rfl ?_) | refine MvQ.stay ?_)
                · have h : 0 < q i k := by have h : 0 < max 0 (q i k) := h; omega
                  rw [hs.unique (.two i k hn (by omega) hlt2 h hi.2 hk.2.2)]
                  (refine rqK rfl ?_; (repeat' first | exact rfl | (refine qS ?_; constructor)))
                · have h : ¬ 0 < q i k := by have h : ¬ 0 < max 0 (q i k) := h; omega
                  refine again (k + 1) [0, 1, 2] ⟨by omega, hlt2, fun k' h1 h2 => ?_⟩ (by omega) ?_
                  · rcases Nat.lt_succ_iff_lt_or_eq.1 h2 with h3 | rfl
                    · exact hk.2.2 k' h1 h3
                    · exact h
                  · (refine qis ?_ ?_ <;> (repeat' first | exact rfl | (refine qS ?_; constructor)))
              · have : k = r.length := by omega
                subst this
                (repeat' first | (refine Owe.same ?_; first | refine Owe.o ?_ | refine Owe.mk ?_ ?_) | (refine Fork.same ?_; (first | refine fkD ?_ ?_ | refine fkN ?_ ?_ | refine fkM ?_ ?_) <;> intro h) | refine MvQ.stay ?_)
                refine again (i + 1) [0, 1] ⟨hlt, fun i' h1 => ?_⟩ (by omega) ?_
                · rcases Nat.lt_succ_iff_lt_or_eq.1 h1 with h3 | rfl
                  · exact hi.2 i' h3
                  · exact hk.2.2
                · (refine qis ?_ ?_ <;> (repeat' first | exact rfl | (refine qS ?_; constructor)))
          · have : i = r.length := by omega
            subst this
            rw [hs.unique (.non hn fun i k hik hk => hi.2 i (by omega) k hik hk)]
            (repeat' first | (refine Owe.same ?_; first | refine Owe.o ?_ | refine Owe.mk ?_ ?_) | (refine Fork.same ?_; (first | refine fkD ?_ ?_ | refine fkN ?_ ?_ | refine fkM ?_ ?_) <;> intro h) | refine MvQ.stay ?_)
            (refine rqK rfl ?_; (repeat' first | exact rfl | (refine qS ?_; constructor)))
  · rw [orE, if_neg h0, if_neg h0]
    refine pi2 fn55 ?_
    (repeat' first | (refine Owe.same ?_; first | refine Owe.o ?_ | refine Owe.mk ?_ ?_) | (refine Fork.same ?_; (first | refine fkD ?_ ?_ | refine fkN ?_ ?_ | refine fkM ?_ ?_) <;> intro h) | ((first | refine OpsL.same ?_ | refine OpsDL.same ?_); first | refine oK c1 rfl rfl rfl ?_) | refine MvQ.stay ?_)
    · (refine rqK rfl ?_; (repeat' first | exact rfl | (refine qS ?_; constructor)))
    · exact absurd h h0
end Go.Pw

set_option linter.unusedSimpArgs false
set_option linter.unusedVariables false
namespace Go.Pw
set_option maxRecDepth 2000
open Go Go.Proofs A1 A2 A3 A4
end Go.Pw

set_option linter.unusedSimpArgs false
set_option linter.unusedVariables false
namespace Go.Pw
set_option maxRecDepth 2000
open Go Go.Proofs A1 A2 A3 A4
theorem w64_j {n : Int} (h : IntKind.has .i64 n = true) : w64 n := by
  simp only [IntKind.has, IntKind.min, IntKind.max, IntKind.signed, IntKind.bits, Bool.and_eq_true, decide_eq_true_eq] at h
  simp at h
  exact ⟨by omega, by omega⟩
theorem w64s_of {l : List Int} (h : ∀ a ∈ l, IntKind.has .i64 a = true) : ∀ i, i < l.length → w64 (l.getD i 0) := fun _ hi => w64_j (h _ (getD_mem 0 hi))
/-- By how much each current is above the least one. -/
def kfI (ps : List Int) (b : List Rg) (i : Nat) : Int := if 0 < ps.length then ps.getD ((i : Int).tmod ps.length).toNat 0 % ((b.getD i (0, 0)).2 - (b.getD i (0, 0)).1 + 1) else 0
abbrev cuF (ps : List Int) (b : List Rg) (i : Nat) : Int := (b.getD i (0, 0)).1 + kfI ps b i
abbrev sgF (ps : List Int) (b : List Rg) (i : Nat) : Rg := (cuF ps b i, cuF ps b i)
theorem kfI_bd {ps : List Int} {b : List Rg} {i : Nat} (h : (b.getD i (0, 0)).1 ≤ (b.getD i (0, 0)).2) : 0 ≤ kfI ps b i ∧ kfI ps b i ≤ (b.getD i (0, 0)).2 - (b.getD i (0, 0)).1 := by
  unfold kfI
  split
  · have h1 := Int.emod_nonneg (ps.getD ((i : Int).tmod ps.length).toNat 0) (show (b.getD i (0, 0)).2 - (b.getD i (0, 0)).1 + 1 ≠ 0 by omega)
    have h2 := Int.emod_lt_of_pos (ps.getD ((i : Int).tmod ps.length).toNat 0) (show 0 < (b.getD i (0, 0)).2 - (b.getD i (0, 0)).1 + 1 by omega)
    omega
  · omega
theorem within_of {x z : Int} {l : List Lk} {ps : List Int} {b : List Rg} (hL : (Ln.mk x z l b).Ok) : Within3 l b (accL (sgF ps b) b.length) (accL (cuF ps b) b.length) := by
  have hb : b.length = l.length := hL.b
  refine ⟨by rw [accL_len]; exact hb, by rw [accL_len]; exact hb, fun k hk => ?_⟩
  have h1 : (b.getD k (0, 0)).1 ≤ (b.getD k (0, 0)).2 := (hL.rg hk).2.2
  have h2 := kfI_bd (ps := ps) h1
  rw [accL_get _ (by omega), accL_get _ (by omega)]
  simp only [sgF, cuF]
  omega
section
variable {x z : Int} {l : List Lk} {b inn : List Rg} {c : List Int}
theorem Within3.diff (h : Within3 l b inn c) (hL : (Ln.mk x z l b).Ok) {i : Nat} : ∀ k, i ≤ k → k ≤ l.length →
    (opL x z l c).pl k - (opL x z l c).pl i ≤ (Ln.mk x z l b).ph k - (Ln.mk x z l b).ph i ∧ (Ln.mk x z l b).pl k - (Ln.mk x z l b).pl i ≤ (opL x z l c).pl k - (opL x z l c).pl i
  | 0, hik, _ => by
    have : i = 0 := by omega
    subst this; omega
  | k + 1, hik, hk => by
    rcases Nat.lt_or_ge k i with h1 | h1
    · have : i = k + 1 := by omega
      subst this; omega
    · have ih := h.diff hL (i := i) k h1 (by omega)
      have hd : 0 ≤ (l.getD k (0, 0, 0)).2.2 := (hL.lk (k := k) (by show k < l.length; omega)).2.2.1
      have hw := h.h k (by omega)
      have m1 := Int.mul_le_mul_of_nonneg_left (show c.getD k 0 ≤ (b.getD k (0, 0)).2 by omega) hd
      have m2 := Int.mul_le_mul_of_nonneg_left (show (b.getD k (0, 0)).1 ≤ c.getD k 0 by omega) hd
      have e1 : (opL x z l c).pl (k + 1) = (opL x z l c).pl k + (l.getD k (0, 0, 0)).2.2 * c.getD k 0 := by
        show (opL x z l c).pl k + (l.getD k (0, 0, 0)).2.2 * ((c.map dup).getD k (0, 0)).1 = _
        rw [dup_get (by rw [h.lc]; omega)]
      have e2 : (Ln.mk x z l b).ph (k + 1) = (Ln.mk x z l b).ph k + (l.getD k (0, 0, 0)).2.2 * (b.getD k (0, 0)).2 := rfl
      have e3 : (Ln.mk x z l b).pl (k + 1) = (Ln.mk x z l b).pl k + (l.getD k (0, 0, 0)).2.2 * (b.getD k (0, 0)).1 := rfl
      omega
/-- A tension, as a reading. -/
def arF (T : List Rg) (i : Nat) : Lk := ((i : Int), (T.getD i (0, 0)).1, (T.getD i (0, 0)).1)
theorem Within3.con (h : Within3 l b inn c) (hL : (Ln.mk x z l b).Ok) (hO : (opL x z l c).Ok) {T : List Rg} (hT : ∀ k, k < l.length → (T.getD k (0, 0)).1 = (opL x z l c).pl (k + 1)) :
    rdsE l.length (accL (arF T) l.length) = 0 ∧ CnR ⟨x, z, l, b⟩ (accL (arF T) l.length) [] := by
  have hn : l.length ≤ 10 := hL.k.n.2
  refine ⟨rdsE_ok.2 ⟨by rw [accL_len]; omega, fun i hi => ?_⟩, Con.non (fun j hj => ?_) fun i k hik hk => ?_⟩
  · rw [accL_len] at hi
    rw [accL_get _ hi]
    have hb := hO.bd (i + 1) hi
    simp only [rdOk, arF, hT i hi]
    omega
  · rw [accL_len] at hj
    rw [show rd (accL (arF T) l.length) j = arF T j from accL_get _ hj]
    have ho := h.ord hL (k := j + 1) hj
    simp only [Pw.ap1, dsI, rdI, plF, arF, Int.toNat_natCast, hT j hj]
    omega
  · rw [accL_len] at hk
    rw [show rd (accL (arF T) l.length) i = arF T i from accL_get _ (by omega), show rd (accL (arF T) l.length) k = arF T k from accL_get _ hk]
    have hd := h.diff hL (i := i + 1) (k + 1) (by omega) hk
    rw [Pw.ap2, if_neg (by simp only [arF]; omega)]
    simp only [ap2', dsI, wlk, arF, Int.toNat_natCast, hT i (by omega), hT k hk]
    omega
end
/-- The greatest of squares. -/
def maxS (S : List Rg) : Nat → Int
  | 0 => 0
  | k + 1 => max (maxS S k) (S.getD k (0, 0)).2
theorem maxS_le (S : List Rg) : ∀ k i, i < k → (S.getD i (0, 0)).2 ≤ maxS S k
  | 0, i, h => absurd h (Nat.not_lt_zero _)
  | k + 1, i, h => by
    rw [maxS]
    rcases Nat.lt_succ_iff_lt_or_eq.1 h with h1 | rfl
    · have := maxS_le S k i h1; omega
    · omega
theorem isqU_bd {n : Int} (h0 : 0 ≤ n) (h1 : n ≤ 800000000) : (0 ≤ isqU n ∧ isqU n ≤ 50000) ∧ n ≤ isqU n * isqU n := by
  obtain ⟨a1, a2, a3⟩ := isq_spec (n := n) (by omega)
  have hb : isq n ≤ 28285 := Int.not_lt.1 fun h => by
    have := Int.mul_le_mul h h (by decide) (by omega)
    omega
  simp only [isqU]
  split
  · refine ⟨by omega, by omega⟩
  · exact ⟨by omega, by omega⟩
theorem no_broken {T : List Rg} {s : List Int} : ∀ n : Nat, (∀ i, i < n → sqI (T.getD i (0, 0)) ≤ s.getD i 0 * s.getD i 0) → fltL (bkP T s) n = []
  | 0, _ => rfl
  | n + 1, h => by
    have ih := no_broken (T := T) (s := s) n (fun i hi => h i (by omega))
    have := h n (by omega)
    rw [fltL_succ, ih, if_neg (by simp only [bkP, decide_eq_true_eq]; omega)]
theorem slk_eq {x z : Int} {l : List Lk} {b : List Rg} : slkE (Ln.mk x z l b) = slkN x z l := by
  have hm : ∀ k, k < l.length → (slP (stl x z l) k = true → ¬ 0 < (Ln.mk x z l b).pz (k + 1)) := fun k hk h => by
    rw [opL_pz]; simp only [slP, decide_eq_true_eq] at h; omega
  simp only [slkE, slkN]
  by_cases h : ∀ k, k < l.length → 0 < (Ln.mk x z l b).pz (k + 1)
  · rw [if_pos h, if_pos]
    simp only [fltL, List.length_eq_zero_iff, List.map_eq_nil_iff, List.filter_eq_nil_iff, List.mem_range]
    intro k hk hs
    exact hm k hk hs (h k hk)
  · rw [if_neg h, if_neg]
    intro h2
    apply h
    simp only [fltL, List.length_eq_zero_iff, List.map_eq_nil_iff, List.filter_eq_nil_iff, List.mem_range] at h2
    intro k hk
    have := h2 k hk
    rw [opL_pz]
    simp only [slP, decide_eq_true_eq] at this
    omega
end Go.Pw

set_option linter.unusedSimpArgs false
set_option linter.unusedVariables false
namespace Go.Pw
set_option maxRecDepth 2000
open Go Go.Proofs A1 A2 A3 A4
theorem C47 : PFD Tryz.prog 47 [] (vbl true) := by
  have c1 := C52 (x := 0) (z := 100) (l := exL) (c := exC) (by decide)
  have c2 := C56 lenF_ok (x := 0) (z := 100) (l := exL) (b := exB) (by decide)
  rw [show orE (opn 0 100 exL exC).2 (accL (tnF (opn 0 100 exL exC).1) (opn 0 100 exL exC).1.l.length) = [(12, 120), (2, 100), (2, 100)] by decide +kernel, show (opn 0 100 exL exC).2 = 0 by decide +kernel] at c1
  rw [show tgE (opb 0 100 exL exB) = 0 by decide +kernel, if_pos rfl, show sumI (enF lenF (opb 0 100 exL exB).1) (opb 0 100 exL exB).1.l.length = 28 by decide +kernel] at c2
  have c5 := C91 (l := [(12, 120), (2, 100), (2, 100)]) (m := [(12, 120), (2, 100), (2, 100)]) (by decide)
  rw [show decide ([(12, 120), (2, 100), (2, 100)] = ([(12, 120), (2, 100), (2, 100)] : List Rg)) = true by decide +kernel] at c5
  refine pi1 fn47 ?_
  (repeat' first | (refine Owe.same ?_; first | refine Owe.o ?_ | refine Owe.mk ?_ ?_) | (refine Fork.same ?_; (first | refine fkD ?_ ?_ | refine fkN ?_ ?_ | refine fkM ?_ ?_) <;> intro h) | ((first | refine OpsL.same ?_ | refine OpsDL.same ?_); first | refine pK C85 rfl rfl ?_ | refine pK C86 rfl rfl ?_ | refine pK C88 rfl rfl ?_ | refine pK c1 rfl rfl ?_ | refine pK c2 rfl rfl ?_ | refine pK c5 rfl rfl ?_) | refine MvQ.stay ?_)
  · (refine rqK rfl ?_; (repeat' first | exact rfl | (refine qS ?_; constructor)))
  all_goals (exfalso; revert h; decide)
end Go.Pw

set_option linter.unusedSimpArgs false
set_option linter.unusedVariables false
set_option maxHeartbeats 1000000
namespace Go.Pw
open Go.RowKit Go.Lib
set_option maxRecDepth 2000
open Go Go.Proofs A1 A2 A3 A4
theorem jn_len {c : UInt8} {M : Nat} : ∀ {l : List By}, (∀ x ∈ l, x.length ≤ M) → (jnG c l).length ≤ l.length * (M + 1)
  | [], _ => by simp [jnG]
  | [x], h => by have := h x (by simp); simp [jnG]; omega
  | x :: y :: r, h => by
    have h1 := jn_len (c := c) (M := M) (l := y :: r) (fun z hz => h z (List.mem_cons_of_mem _ hz))
    have h2 := h x (by simp)
    rw [jn_cons (by simp), List.length_append, List.length_cons, List.length_cons, Nat.add_mul, Nat.one_mul]
    omega
/-- The words of numbers. -/
abbrev wdL (l : List Int) : List By := l.map itoa
def wdS (l : List Int) : By := jnG 32 (wdL l)
theorem wd_len {l : List Int} (h : ∀ n ∈ l, i64P n) : (wdS l).length ≤ l.length * 22 := by
  have := jn_len (c := 32) (M := 21) (l := wdL l) (fun x hx => by
    obtain ⟨n, hn, rfl⟩ := List.mem_map.1 hx
    exact itoa_length_le n (h n hn).1 (h n hn).2)
  rw [List.length_map] at this; exact this
theorem tk1 {α : Type} {l : List α} {k : Nat} (d : α) (h : k < l.length) : l.take (k + 1) = l.take k ++ [l.getD k d] := by
  rw [List.take_add_one, List.getElem?_eq_getElem h, List.getD_eq_getElem?_getD, List.getElem?_eq_getElem h]; rfl
theorem C92 {l : List Int} : (l.length ≤ 1000 ∧ ∀ n ∈ l, i64P n) → PFD Tryz.prog 92 [.c (ints l)] (sv (wdS l)) := fun ⟨hl, h⟩ => by
  refine pi1 fn92 ?_
  (repeat' first | (refine Owe.same ?_; first | refine Owe.o ?_ | refine Owe.mk ?_ ?_) | (refine Fork.same ?_; (first | refine fkD ?_ ?_ | refine fkN ?_ ?_ | refine fkM ?_ ?_) <;> intro h) | refine MvQ.stay ?_)
  refine Sat.nilS 3 9 1 (fun i => rS (([] : List By).getD i [])) rfl ?_
  refine Sat.lp (fun k : Nat => ⟨[(8, vi .i64 k), (7, vi .i64 l.length), (6, .c (ints l)), (3, .c (.ms 0 (wdL (l.take k)).length))], [(0, rowv 9 1 rS [] (wdL (l.take k)))], 1⟩)
    (fun k => k ≤ l.length) (fun k => l.length - k) 0 [0] (Nat.zero_le _) ?_ ?_
  · (refine qis ?_ ?_ <;> (repeat' first | exact rfl | (refine qS ?_; constructor)))
  · intro k hk
    refine Fork.dec (fun hlt => ?_) (fun hlt => ?_)
    · have hlt : k < l.length := by omega
      have hi : i64P (l.getD (k : Int).toNat 0) := h _ (by
        show l.getD k 0 ∈ l
        rw [List.getD_eq_getElem?_getD, List.getElem?_eq_getElem hlt]; exact List.getElem_mem ..)
      have h84 := C181 hi
      have ht : wdL (l.take (k + 1)) = wdL (l.take k) ++ [itoa (l.getD k 0)] := by
        rw [tk1 0 hlt, wdL, List.map_append]; rfl
      have hk1 : (wdL (l.take k)).length ≤ 1000 := by rw [List.length_map, List.length_take]; omega
      (repeat' first | (refine Owe.same ?_; first | refine Owe.o ?_ | refine Owe.mk ?_ ?_) | (refine Fork.same ?_; (first | refine fkY ?_ | refine fkF ?_ | ((first | refine fkD ?_ ?_ | refine fkN ?_ ?_ | refine fkM ?_ ?_) <;> intro h))) | ((first | refine OpsL.same ?_ | refine OpsDL.same ?_); first | refine oK h84 rfl rfl rfl ?_) | refine MvQ.stay ?_)
      refine again (k + 1) [1] hlt (by omega) ?_
      (refine qis ?_ ?_ <;> (repeat' first | exact rfl | (refine qS ?_; constructor)))
      · rw [ht, List.length_append]; rfl
      · exact ⟨_, rfl, ht⟩
    · have hk1 : k = l.length := by omega
      have hw : wdL (l.take k) = wdL l := by rw [List.take_of_length_le (by omega)]
      have hj := wd_len h
      have hll : (wdL l).length = l.length := List.length_map ..
      have h42 := C93 (l := wdL l) (c := 32) ⟨by omega, by show (wdS l).length ≤ _; omega⟩
      rw [hw]
      (repeat' first | (refine Owe.same ?_; first | refine Owe.o ?_ | refine Owe.mk ?_ ?_) | (refine Fork.same ?_; (first | refine fkD ?_ ?_ | refine fkN ?_ ?_ | refine fkM ?_ ?_) <;> intro h))
      refine MvQ.frz 3 _ rfl rfl (Nat.le_refl _) ?_
      (repeat' first | (refine Owe.same ?_; first | refine Owe.o ?_ | refine Owe.mk ?_ ?_) | (refine Fork.same ?_; (first | refine fkY ?_ | refine fkF ?_ | ((first | refine fkD ?_ ?_ | refine fkN ?_ ?_ | refine fkM ?_ ?_) <;> intro h))) | ((first | refine OpsL.same ?_ | refine OpsDL.same ?_); first | refine oK h42 rfl rfl rfl ?_) | refine MvQ.stay ?_)
      (refine rqK rfl ?_; (repeat' first | exact rfl | (refine qS ?_; constructor)))
/-- Devices as a string. -/
abbrev Tr3 := Int × Int × Int
abbrev dvW (d : Tr3) : By := wdS [d.1, d.2.1, d.2.2]
abbrev w64P (d : Tr3) : Prop := i64P d.1 ∧ i64P d.2.1 ∧ i64P d.2.2
theorem i64_3 {a b c : Int} (h1 : i64P a) (h2 : i64P b) (h3 : i64P c) : ∀ n ∈ [a, b, c], i64P n := fun n hn => by
  simp only [List.mem_cons, List.not_mem_nil, or_false] at hn
  rcases hn with rfl | rfl | rfl <;> assumption
theorem C41_3 {a b c : Int} (h1 : i64P a) (h2 : i64P b) (h3 : i64P c) : PFD Tryz.prog 92 [.c (ints [a, b, c])] (sv (wdS [a, b, c])) := C92 ⟨by simp, i64_3 h1 h2 h3⟩
end Go.Pw

set_option linter.unusedSimpArgs false
set_option linter.unusedVariables false
set_option maxHeartbeats 1000000
set_option maxRecDepth 20000
namespace Go.Pw
open Go.RowKit Go.Lib
set_option maxRecDepth 2000
open Go Go.Proofs A1 A2 A3 A4
/-- A fact that is kept out of sight. -/
structure Hd (p : Prop) : Prop where
  h : p
end Go.Pw

set_option linter.unusedSimpArgs false
set_option linter.unusedVariables false
set_option maxHeartbeats 1000000
namespace Go.Pw
open Go.RowKit Go.Lib
set_option maxRecDepth 2000
open Go Go.Proofs A1 A2 A3 A4
end Go.Pw

set_option linter.unusedSimpArgs false
set_option linter.unusedVariables false
set_option maxHeartbeats 1000000
namespace Go.Pw
open Go.RowKit Go.Lib
set_option maxRecDepth 2000
open Go Go.Proofs A1 A2 A3 A4
end Go.Pw

set_option linter.unusedSimpArgs false
set_option linter.unusedVariables false
set_option maxHeartbeats 1000000
namespace Go.Pw
open Go.RowKit Go.Lib
set_option maxRecDepth 2000
open Go Go.Proofs A1 A2 A3 A4
theorem cut_len {c : UInt8} : ∀ {l acc : By}, ∀ x ∈ cutG c acc l, x.length ≤ acc.length + l.length
  | [], acc, x, hx => by rw [cutG, List.mem_singleton] at hx; subst hx; simp
  | y :: l, acc, x, hx => by
    rw [cutG] at hx
    split at hx
    · rcases List.mem_cons.1 hx with h1 | h1
      · subst h1; simp
      · have := cut_len x h1; simp at this ⊢; omega
    · have := cut_len x hx; simp at this ⊢; omega
theorem cut_count {c : UInt8} : ∀ {l acc : By}, (cutG c acc l).length ≤ l.length + 1
  | [], acc => by simp [cutG]
  | y :: l, acc => by
    rw [cutG]; split
    · have := cut_count (c := c) (l := l) (acc := []); simp; omega
    · have := cut_count (c := c) (l := l) (acc := acc ++ [y]); simp; omega
/-- The numbers of words. -/
def pvL (d : Int) : List By → Option (List Int)
  | [] => some []
  | x :: l => match numV x d, pvL d l with
    | some n, some m => some (n :: m)
    | _, _ => none
theorem pvL_len {d : Int} : ∀ {l : List By} {a : List Int}, pvL d l = some a → a.length = l.length
  | [], a, h => by cases h; rfl
  | x :: l, a, h => by
    rw [pvL] at h
    split at h
    · rename_i n m hn hm
      cases h
      rw [List.length_cons, List.length_cons, pvL_len hm]
    · cases h
theorem pvL_app {d : Int} {w : By} : ∀ {l : List By} {a : List Int}, pvL d l = some a → pvL d (l ++ [w]) = match numV w d with | some n => some (a ++ [n]) | none => none
  | [], a, h => by
    cases h
    cases hw : numV w d <;> simp [pvL, hw]
  | x :: l, a, h => by
    rw [pvL] at h
    rw [List.cons_append, pvL]
    split at h
    · rename_i n m hn hm
      cases h
      rw [pvL_app hm, hn]
      cases numV w d <;> simp
    · cases h
theorem pvL_bad {d : Int} {w : By} (hw : numV w d = none) : ∀ {l r : List By}, pvL d (l ++ w :: r) = none
  | [], r => by rw [List.nil_append, pvL, hw]
  | x :: l, r => by
    rw [List.cons_append, pvL, pvL_bad hw]
    cases numV x d <;> rfl
theorem pvL_take {d : Int} {l : List By} {k : Nat} (hk : k < l.length) (h : numV (l.getD k []) d = none) : pvL d l = none := by
  have e : l = l.take k ++ l.getD k [] :: l.drop (k + 1) := by
    rw [List.getD_eq_getElem?_getD, List.getElem?_eq_getElem hk]
    exact (List.take_append_drop k l).symm.trans (by rw [List.drop_eq_getElem_cons hk]; rfl)
  rw [e]; exact pvL_bad h
/-- The numbers of a text. -/
abbrev pvS (d : Int) (s : By) : Option (List Int) := pvL d (cutG 32 [] s)
end Go.Pw

set_option linter.unusedVariables false
set_option maxHeartbeats 2000000
set_option maxRecDepth 100000
namespace Go.Pw
open Go Go.Proofs
/-- moonpool/cable.FormatLine -/
def lc10u : LCode :=
  (.seq (.region [⟨some 1, .boxS (.tmp 0), none⟩, ⟨some 2, .mv (.const (.string ⟨#[]⟩)), none⟩]) (.seq (.region [⟨some 6, .fld 0 (.tmp 1), none⟩, ⟨some 7, .fld 0 (.tmp 6), none⟩,
    ⟨some 8, .load false 1 (.tmp 7), none⟩, ⟨some 9, .fld 0 (.tmp 1), none⟩, ⟨some 10, .fld 1 (.tmp 9), none⟩, ⟨some 11, .load false 1 (.tmp 10), none⟩, ⟨some 12, .lit false 3 1
    [(.tmp 8), (.tmp 11)], none⟩, ⟨some 13, .call (.func 92) [(.tmp 12)], none⟩, ⟨some 14, .lit true 9 1 [(.tmp 13)], none⟩, ⟨some 3, .mv (.tmp 14), none⟩]) (.seq (.seq (.region
    [⟨some 15, .fld 2 (.tmp 1), none⟩, ⟨some 16, .load false 1 (.tmp 15), none⟩, ⟨some 17, .len (.tmp 16), none⟩, ⟨some 18, .mv (.const (.int .i64 0)), none⟩]) (.block 0 (.loop
    (.seq (.region [⟨some 19, .bin .lss (.tmp 18) (.tmp 17), none⟩]) (.seq (.cond (.tmp 19) .skip (.exit 0)) (.seq (.block 1 (.seq (.region [⟨some 20, .idx 3 (.tmp 16) (.tmp 18),
    none⟩, ⟨some 21, .load true 3 (.tmp 20), none⟩, ⟨some 5, .alloc [(.int .i64 0), (.int .i64 0), (.int .i64 0)], none⟩, ⟨none, .store 3 (.tmp 5) (.tmp 21), none⟩]) (.region [⟨some
    22, .mv (.tmp 3), none⟩, ⟨some 23, .fld 0 (.tmp 5), none⟩, ⟨some 24, .load false 1 (.tmp 23), none⟩, ⟨some 25, .fld 1 (.tmp 5), none⟩, ⟨some 26, .load false 1 (.tmp 25), none⟩,
    ⟨some 27, .fld 2 (.tmp 5), none⟩, ⟨some 28, .load false 1 (.tmp 27), none⟩, ⟨some 29, .lit false 3 1 [(.tmp 24), (.tmp 26), (.tmp 28)], none⟩, ⟨some 30, .call (.func 92) [(.tmp
    29)], none⟩, ⟨some 31, .lit false 9 1 [(.tmp 30)], none⟩, ⟨some 32, .append true 9 1 16 (.tmp 22) (.tmp 31), none⟩, ⟨some 3, .mv (.tmp 32), none⟩]))) (.region [⟨some 33, .bin
    .add (.tmp 18) (.const (.int .i64 1)), none⟩, ⟨some 18, .mv (.tmp 33), none⟩]))))))) (.seq (.region [⟨some 34, .mv (.tmp 3), none⟩, ⟨some 35, .call (.func 93) [(.tmp 34),
    (.const (.string ⟨#[59]⟩))], none⟩, ⟨some 2, .mv (.tmp 35), none⟩]) .ret))))
theorem low10u : lowF Tryz.prog [1, 14, 32] Tryz.f10 = some (36, lc10u.strip, [.tmp 2]) := by kernel_rfl
theorem fn10u : FnOk Tryz.prog 10 36 lc10u [.tmp 2] := ⟨Tryz.call10, [1, 14, 32], _, Tryz.func10, low10u⟩
end Go.Pw

set_option linter.unusedSimpArgs false
set_option linter.unusedVariables false
set_option maxHeartbeats 1000000
namespace Go.Pw
open Go.RowKit Go.Lib
set_option maxRecDepth 2000
open Go Go.Proofs A1 A2 A3 A4
theorem i64_2 {a b : Int} (h1 : i64P a) (h2 : i64P b) : ∀ n ∈ [a, b], i64P n := fun n hn => by
  simp only [List.mem_cons, List.not_mem_nil, or_false] at hn
  rcases hn with rfl | rfl <;> assumption
/-- A line as a string. -/
def lnS (x z : Int) (l : List Tr3) : By := jnG 59 (wdS [x, z] :: l.map dvW)
theorem dw_len {d : Tr3} (h : w64P d) : (dvW d).length ≤ 66 := wd_len (i64_3 h.1 h.2.1 h.2.2)
theorem hd_len {a b : Int} (h1 : i64P a) (h2 : i64P b) : (wdS [a, b]).length ≤ 44 := wd_len (i64_2 h1 h2)
theorem ln_len {x z : Int} {l : List Tr3} (hx : i64P x) (hz : i64P z) (h : ∀ d ∈ l, w64P d) : (lnS x z l).length ≤ (l.length + 1) * 67 := by
  have := jn_len (c := 59) (M := 66) (l := wdS [x, z] :: l.map dvW) (fun y hy => by
    rcases List.mem_cons.1 hy with h1 | h1
    · subst h1; have := hd_len hx hz; omega
    · obtain ⟨d, hd, rfl⟩ := List.mem_map.1 h1
      exact dw_len (h d hd))
  rw [List.length_cons, List.length_map] at this; exact this
theorem C92_2 {a b : Int} (h1 : i64P a) (h2 : i64P b) : PFD Tryz.prog 92 [.c (ints [a, b])] (sv (wdS [a, b])) := C92 ⟨by simp, i64_2 h1 h2⟩
abbrev lnD (x z : Int) (l : List Tr3) : List D := [dI x, dI z, .sl 3 l.length fun i => r3 (l.getD i (0, 0, 0))]
/-- A box as a string. -/
def fl2 : List (Int × Int) → List Int
  | [] => []
  | r :: b => r.1 :: r.2 :: fl2 b
theorem fl2_app : ∀ (b : List (Int × Int)) (r : Int × Int), fl2 (b ++ [r]) = fl2 b ++ [r.1, r.2]
  | [], r => rfl
  | q :: b, r => by rw [List.cons_append, fl2, fl2, fl2_app b r]; rfl
theorem fl2_len : ∀ b : List (Int × Int), (fl2 b).length = 2 * b.length
  | [] => rfl
  | r :: b => by rw [fl2, List.length_cons, List.length_cons, fl2_len b, List.length_cons]; omega
theorem fl2_mem : ∀ {b : List (Int × Int)} {n : Int}, n ∈ fl2 b → ∃ r ∈ b, n = r.1 ∨ n = r.2
  | [], n, h => absurd h (by simp [fl2])
  | r :: b, n, h => by
    rw [fl2, List.mem_cons, List.mem_cons] at h
    rcases h with h | h | h
    · exact ⟨r, by simp, .inl h⟩
    · exact ⟨r, by simp, .inr h⟩
    · obtain ⟨q, hq, h⟩ := fl2_mem h; exact ⟨q, by simp [hq], h⟩
abbrev w64Q (r : Int × Int) : Prop := i64P r.1 ∧ i64P r.2
theorem fl2_i64 {b : List (Int × Int)} (h : ∀ r ∈ b, w64Q r) : ∀ n ∈ fl2 b, i64P n := fun n hn => by
  obtain ⟨r, hr, h1 | h1⟩ := fl2_mem hn
  · rw [h1]; exact (h r hr).1
  · rw [h1]; exact (h r hr).2
theorem EEq.two {e : TypeId} {l l' : List Int} {a b : Int} (hl : l' = l ++ [a, b]) : EEq (.row e 1 (l.length + 2) (fun i => if i < l.length then r1 (l.getD i 0) else [[dI a], [dI b]].getD (i - l.length) []) false) (rowv e 1 r1 0 l') := by
  subst hl
  refine EEq.rowl (by simp) fun i hi => ?_
  by_cases h : i < l.length
  · rw [if_pos h]; show r1 (l.getD i 0) = r1 ((l ++ [a, b]).getD i 0)
    rw [List.getD_eq_getElem?_getD, List.getD_eq_getElem?_getD, List.getElem?_append_left h]
  · rw [if_neg h]; show _ = r1 ((l ++ [a, b]).getD i 0)
    rw [List.getD_eq_getElem?_getD (l := l ++ [a, b]), List.getElem?_append_right (by omega)]
    have : i - l.length = 0 ∨ i - l.length = 1 := by omega
    rcases this with h1 | h1 <;> rw [h1] <;> rfl
def bxS (b : List (Int × Int)) : By := wdS (fl2 b)
theorem C12 {b : List (Int × Int)} : (b.length ≤ 400 ∧ ∀ r ∈ b, w64Q r) → PFD Tryz.prog 12 [.c (prs b)] (sv (bxS b)) := fun ⟨hl, h⟩ => by
  have h103 := C92 (l := fl2 b) ⟨by rw [fl2_len]; omega, fl2_i64 h⟩
  clear h
  refine pi1 fn12 ?_
  (repeat' first | (refine Owe.same ?_; first | refine Owe.o ?_ | refine Owe.mk ?_ ?_) | (refine Fork.same ?_; (first | refine fkD ?_ ?_ | refine fkN ?_ ?_ | refine fkM ?_ ?_) <;> intro h) | refine MvQ.stay ?_)
  refine Sat.nilS 3 3 1 (fun i => r1 (([] : List Int).getD i 0)) rfl ?_
  refine Sat.lp (fun k : Nat => ⟨[(6, .c (prs b)), (7, vi .i64 b.length), (3, .c (.ms 0 (fl2 (b.take k)).length)), (8, vi .i64 k)], [(0, rowv 3 1 r1 0 (fl2 (b.take k)))], 1⟩)
    (fun k => k ≤ b.length) (fun k => b.length - k) 0 [0] (Nat.zero_le _) ?_ ?_
  · (refine qis ?_ ?_ <;> (repeat' first | exact rfl | (refine qS ?_; constructor)))
  · intro k hk
    refine Fork.dec (fun hlt => ?_) (fun hlt => ?_)
    · have hlt : k < b.length := by have : (k : Int) < b.length := hlt; omega
      have ht : fl2 (b.take (k + 1)) = fl2 (b.take k) ++ [(b.getD k (0, 0)).1, (b.getD k (0, 0)).2] := by
        rw [tk1 (0, 0) hlt, fl2_app]
      have hk1 : (fl2 (b.take k)).length ≤ 1000 := by rw [fl2_len, List.length_take]; omega
      (repeat' first | (refine Owe.same ?_; first | refine Owe.o ?_ | refine Owe.mk ?_ ?_) | (refine Fork.same ?_; (first | refine fkD ?_ ?_ | refine fkN ?_ ?_ | refine fkM ?_ ?_) <;> intro h) | refine MvQ.stay ?_)
      refine again (k + 1) [2] hlt (by omega) ?_
      (refine qis ?_ ?_ <;> (repeat' first | exact rfl | (refine qS ?_; constructor)))
      · rw [ht, List.length_append]; rfl
      · exact EEq.two ht
    · have hk1 : k = b.length := by have : ¬ (k : Int) < b.length := hlt; omega
      have hw : fl2 (b.take k) = fl2 b := by rw [List.take_of_length_le (by omega)]
      rw [hw]
      (repeat' first | (refine Owe.same ?_; first | refine Owe.o ?_ | refine Owe.mk ?_ ?_) | (refine Fork.same ?_; (first | refine fkD ?_ ?_ | refine fkN ?_ ?_ | refine fkM ?_ ?_) <;> intro h))
      refine MvQ.frz 3 _ rfl rfl (Nat.le_refl _) ?_
      (repeat' first | (refine Owe.same ?_; first | refine Owe.o ?_ | refine Owe.mk ?_ ?_) | (refine Fork.same ?_; (first | refine fkY ?_ | refine fkF ?_ | ((first | refine fkD ?_ ?_ | refine fkN ?_ ?_ | refine fkM ?_ ?_) <;> intro h))) | ((first | refine OpsL.same ?_ | refine OpsDL.same ?_); first | refine oK h103 rfl rfl rfl ?_) | refine MvQ.stay ?_)
      (refine rqK rfl ?_; (repeat' first | exact rfl | (refine qS ?_; constructor)))
theorem C10 {x z : Int} {l : List Tr3} : (l.length ≤ 1000 ∧ i64P x ∧ i64P z ∧ ∀ d ∈ l, w64P d) → PFD Tryz.prog 10 [.agg [int x, int z, trs l]] (sv (lnS x z l)) := fun ⟨hl, hx, hz, h⟩ => by
  have hj := ln_len hx hz h
  have h := Hd.mk h
  have h2 := C92_2 hx hz
  clear hx hz
  have hf : (wdS [x, z] :: l.map dvW).length ≤ 1000000 := by rw [List.length_cons, List.length_map]; omega
  have h93 := C93 (l := wdS [x, z] :: l.map dvW) (c := 59) ⟨hf, by show (lnS x z l).length ≤ _; omega⟩
  refine pi1 fn10u ?_
  (repeat' first | (refine Owe.same ?_; first | refine Owe.o ?_ | refine Owe.mk ?_ ?_) | (refine Fork.same ?_; (first | refine fkD ?_ ?_ | refine fkN ?_ ?_ | refine fkM ?_ ?_) <;> intro h) | ((first | refine OpsL.same ?_ | refine OpsDL.same ?_); first | refine pK h2 rfl rfl ?_) | refine MvQ.stay ?_)
  refine Sat.lp (fun k : Nat => ⟨[(16, .c (trs l)), (17, vi .i64 l.length), (18, vi .i64 k), (3, .c (.ms 0 (wdS [x, z] :: (l.take k).map dvW).length))], [(0, rowv 9 1 rS [] (wdS [x, z] :: (l.take k).map dvW))], 1⟩)
    (fun k => k ≤ l.length) (fun k => l.length - k) 0 [0] (Nat.zero_le _) ?_ ?_
  · (refine qis ?_ ?_ <;> (repeat' first | exact rfl | (refine qS ?_; constructor)))
  · intro k hk
    refine Fork.dec (fun hlt => ?_) (fun hlt => ?_)
    · have hlt : k < l.length := by have : (k : Int) < l.length := hlt; omega
      have hi := h.h _ (getD_mem (0, 0, 0) hlt)
      have h52 := C41_3 (a := (l.getD (k : Int).toNat (0, 0, 0)).1) (b := (l.getD (k : Int).toNat (0, 0, 0)).2.1) (c := (l.getD (k : Int).toNat (0, 0, 0)).2.2) hi.1 hi.2.1 hi.2.2
      have ht : (wdS [x, z] :: (l.take (k + 1)).map dvW) = (wdS [x, z] :: (l.take k).map dvW) ++ [dvW (l.getD k (0, 0, 0))] := by
        rw [tk1 (0, 0, 0) hlt, List.map_append]; rfl
      have hk1 : (wdS [x, z] :: (l.take k).map dvW).length ≤ 1001 := by rw [List.length_cons, List.length_map, List.length_take]; omega
      clear hi
      generalize hL : (wdS [x, z] :: (l.take k).map dvW) = L at ht hk1
      (repeat' first | (refine Owe.same ?_; first | refine Owe.o ?_ | refine Owe.mk ?_ ?_) | (refine Fork.same ?_; (first | refine fkD ?_ ?_ | refine fkN ?_ ?_ | refine fkM ?_ ?_) <;> intro h) | ((first | refine OpsL.same ?_ | refine OpsDL.same ?_); first | refine pK h52 rfl rfl ?_) | refine MvQ.stay ?_)
      refine again (k + 1) [2] hlt (by omega) ?_
      (refine qis ?_ ?_ <;> (repeat' first | exact rfl | (refine qS ?_; constructor)))
      · rw [ht, List.length_append]; rfl
      · exact ⟨_, rfl, ht⟩
    · have hk1 : k = l.length := by have : ¬ (k : Int) < l.length := hlt; omega
      have hw : (l.take k).map dvW = l.map dvW := by rw [List.take_of_length_le (by omega)]
      rw [hw]
      (repeat' first | (refine Owe.same ?_; first | refine Owe.o ?_ | refine Owe.mk ?_ ?_) | (refine Fork.same ?_; (first | refine fkD ?_ ?_ | refine fkN ?_ ?_ | refine fkM ?_ ?_) <;> intro h))
      refine MvQ.frz 3 _ rfl rfl (Nat.le_refl _) ?_
      (repeat' first | (refine Owe.same ?_; first | refine Owe.o ?_ | refine Owe.mk ?_ ?_) | (refine Fork.same ?_; (first | refine fkY ?_ | refine fkF ?_ | ((first | refine fkD ?_ ?_ | refine fkN ?_ ?_ | refine fkM ?_ ?_) <;> intro h))) | ((first | refine OpsL.same ?_ | refine OpsDL.same ?_); first | refine oK h93 rfl rfl rfl ?_) | refine MvQ.stay ?_)
      (refine rqK rfl ?_; (repeat' first | exact rfl | (refine qS ?_; constructor)))
end Go.Pw

set_option linter.unusedSimpArgs false
set_option linter.unusedVariables false
set_option maxHeartbeats 1000000
namespace Go.Pw
open Go.RowKit Go.Lib
set_option maxRecDepth 2000
open Go Go.Proofs A1 A2 A3 A4
def alL {α : Type} (f : By → Option α) : List By → Option (List α)
  | [] => some []
  | w :: r => match f w, alL f r with
    | some n, some l => some (n :: l)
    | _, _ => none
theorem alL_app {α : Type} {f : By → Option α} {w : By} : ∀ {l : List By} {a : List α}, alL f l = some a → alL f (l ++ [w]) = match f w with | some n => some (a ++ [n]) | none => none
  | [], a, h => by
    cases h
    cases hw : f w <;> simp [alL, hw]
  | x :: l, a, h => by
    rw [alL] at h
    rw [List.cons_append, alL]
    split at h
    · rename_i n m hn hm
      cases h
      rw [alL_app hm, hn]
      cases f w <;> simp
    · cases h
theorem alL_bad {α : Type} {f : By → Option α} {w : By} (hw : f w = none) : ∀ {l r : List By}, alL f (l ++ w :: r) = none
  | [], r => by rw [List.nil_append, alL, hw]
  | x :: l, r => by
    rw [List.cons_append, alL, alL_bad hw]
    cases f x <;> rfl
theorem alL_take {α : Type} {f : By → Option α} {l : List By} {k : Nat} (hk : k < l.length) (h : f (l.getD k []) = none) : alL f l = none := by
  have e : l = l.take k ++ l.getD k [] :: l.drop (k + 1) := by
    rw [List.getD_eq_getElem?_getD, List.getElem?_eq_getElem hk]
    exact (List.take_append_drop k l).symm.trans (by rw [List.drop_eq_getElem_cons hk]; rfl)
  rw [e]; exact alL_bad h
/-- A link, the first piece, a line out of a string. -/
def lkP (p : By) : Option Tr3 := match pvS 5 p with
  | some [a, b, c] => if 0 ≤ a ∧ 0 ≤ c then some (a, b, c) else none
  | _ => none
def hdP (p : By) : Option (Int × Int) := match pvS 5 p with
  | some [a, b] => some (a, b)
  | _ => none
abbrev Lnv := Int × Int × List Tr3
abbrev lnv (q : Lnv) : V := .agg [int q.1, int q.2.1, trs q.2.2]
def plV (h : By) (r : List By) : Lnv × Int := match hdP h, alL lkP r with
  | some (x, z), some l => if (lineE x z l).2 = 0 then ((x, z, l), 0) else ((0, 0, []), (lineE x z l).2)
  | _, _ => ((0, 0, []), 7)
def plE (s : By) : Lnv × Int := if 60000 < s.length then ((0, 0, []), 8) else match cutG 59 [] s with
  | [] => ((0, 0, []), 7)
  | h :: r => plV h r
theorem lkP_y {p : By} {r : Tr3} (h : lkP p = some r) : pvS 5 p = some [r.1, r.2.1, r.2.2] ∧ 0 ≤ r.1 ∧ 0 ≤ r.2.2 := by
  unfold lkP at h
  split at h
  · rename_i a b c h1
    split at h
    · rename_i h2; cases h; exact ⟨h1, h2⟩
    · cases h
  · cases h
theorem hdP_y {p : By} {a b : Int} (h : hdP p = some (a, b)) : pvS 5 p = some [a, b] := by
  unfold hdP at h
  split at h
  · rename_i h1; cases h; exact h1
  · cases h
theorem plV_h {h : By} {r : List By} (e : hdP h = none) : plV h r = ((0, 0, []), 7) := by
  unfold plV; rw [e]
theorem plV_r {h : By} {r : List By} (e : alL lkP r = none) : plV h r = ((0, 0, []), 7) := by
  unfold plV; rw [e]
  cases hdP h <;> rfl
theorem plV_y {h : By} {r : List By} {a b : Int} {l : List Tr3} (e1 : hdP h = some (a, b)) (e : alL lkP r = some l) : plV h r = if (lineE a b l).2 = 0 then ((a, b, l), 0) else ((0, 0, []), (lineE a b l).2) := by
  unfold plV; rw [e1, e]
theorem plE_of {s h : By} {r : List By} (hs : ¬ 60000 < s.length) (e : cutG 59 [] s = h :: r) : plE s = plV h r := by
  unfold plE; rw [if_neg hs, e]
theorem plE_big {s : By} (hs : 60000 < s.length) : plE s = ((0, 0, []), 8) := by unfold plE; rw [if_pos hs]
end Go.Pw

set_option linter.unusedSimpArgs false
set_option linter.unusedVariables false
set_option maxHeartbeats 1000000
namespace Go.Pw
open Go.RowKit Go.Lib
set_option maxRecDepth 2000
open Go Go.Proofs A1 A2 A3 A4
/-- Numbers by twos. -/
abbrev twF (v : List Int) (i : Nat) : Int × Int := (v.getD (2 * i) 0, v.getD (2 * i + 1) 0)
abbrev twos (v : List Int) : List (Int × Int) := accL (twF v) (v.length / 2)
def bxV (v : List Int) : List (Int × Int) × Int := if v.length % 2 ≠ 0 then ([], 7) else if ∀ i, i < v.length / 2 → (twF v i).1 ≤ (twF v i).2 then (twos v, 0) else ([], 9)
def bxE (s : By) : List (Int × Int) × Int := if 60000 < s.length then ([], 8) else if s = [] then ([], 0) else match pvS 2 s with
  | none => ([], 7)
  | some v => bxV v
end Go.Pw

set_option linter.unusedSimpArgs false
set_option linter.unusedVariables false
set_option maxHeartbeats 1000000
namespace Go.Pw
open Go.RowKit Go.Lib
set_option maxRecDepth 2000
open Go Go.Proofs A1 A2 A3 A4
theorem dec_len_le : ∀ (k u : Nat), u < 10 ^ (k + 1) → (decDigits u).length ≤ k + 1
  | 0, u, h => by rw [decDigits_one (by simpa using h)]; simp
  | k + 1, u, h => by
    by_cases h1 : u < 10
    · rw [decDigits_one h1]; simp
    · rw [dec_big h1, List.length_append]
      have := dec_len_le k (u / 10) (by rw [Nat.pow_succ] at h; omega)
      simp; omega
theorem numV_d {n : Int} (k : Nat) {d : Int} (hd : d ≤ 18) (hk : ((k + 1 : Nat) : Int) ≤ d) (h : n.natAbs < 10 ^ (k + 1)) : numV (itoa n) d = some n := (numV_iff hd).2 ⟨rfl, by have := dec_len_le k _ h; omega⟩
theorem numV5 {n : Int} (h : -99999 ≤ n ∧ n ≤ 99999) : numV (itoa n) 5 = some n := numV_d 4 (by decide) (by decide) (show n.natAbs < 100000 by omega)
theorem numV2 {n : Int} (h : -99 ≤ n ∧ n ≤ 99) : numV (itoa n) 2 = some n := numV_d 1 (by decide) (by decide) (show n.natAbs < 100 by omega)
theorem pvL_wd {d : Int} : ∀ {l : List Int}, (∀ n ∈ l, numV (itoa n) d = some n) → pvL d (wdL l) = some l
  | [], _ => rfl
  | x :: l, h => by
    show pvL d (itoa x :: wdL l) = _
    rw [pvL, h x (by simp), pvL_wd (l := l) (fun n hn => h n (List.mem_cons_of_mem _ hn))]
theorem no32 (n : Int) : (32 : UInt8) ∉ itoa n := itoa_no (by decide)
theorem no59 (n : Int) : (59 : UInt8) ∉ itoa n := itoa_no (by decide)
theorem cut_wd {l : List Int} (h : l ≠ []) : cutG 32 [] (wdS l) = wdL l := cut_jn (by simpa using h) (fun x hx => by
  obtain ⟨n, _, rfl⟩ := List.mem_map.1 hx
  exact no32 n)
theorem pvS_wd {d : Int} {l : List Int} (hne : l ≠ []) (h : ∀ n ∈ l, numV (itoa n) d = some n) : pvS d (wdS l) = some l := by
  show pvL d (cutG 32 [] (wdS l)) = _
  rw [cut_wd hne]; exact pvL_wd h
theorem jn_no {c d : UInt8} (hcd : c ≠ d) : ∀ {l : List By}, (∀ x ∈ l, d ∉ x) → d ∉ jnG c l
  | [], _ => by simp [jnG]
  | [x], h => h x (by simp)
  | x :: y :: r, h => by
    rw [jn_cons (by simp), List.mem_append, List.mem_cons]
    intro hh
    rcases hh with h1 | h1 | h1
    · exact h x (by simp) h1
    · exact hcd h1.symm
    · exact jn_no hcd (fun z hz => h z (List.mem_cons_of_mem _ hz)) h1
theorem wd_no59 (l : List Int) : (59 : UInt8) ∉ wdS l := jn_no (by decide) (fun x hx => by
  obtain ⟨n, _, rfl⟩ := List.mem_map.1 hx
  exact no59 n)
theorem alL_map {α : Type} {f : By → Option α} {g : α → By} : ∀ {l : List α}, (∀ x ∈ l, f (g x) = some x) → alL f (l.map g) = some l
  | [], _ => rfl
  | x :: l, h => by
    rw [List.map_cons, alL, h x (by simp), alL_map (fun y hy => h y (List.mem_cons_of_mem _ hy))]
theorem lkP_W {k : Lk} (h : lkOk k) : lkP (dvW k) = some k := by
  obtain ⟨a, b, c⟩ := k
  have h : (1 ≤ a ∧ a ≤ 1000) ∧ (-1000 ≤ b ∧ b ≤ 1000) ∧ 0 ≤ c ∧ c ≤ 20 := h
  have hn : pvS 5 (wdS [a, b, c]) = some [a, b, c] := pvS_wd (by simp) (fun n hn => numV5 (by
    simp only [List.mem_cons, List.not_mem_nil, or_false] at hn
    rcases hn with rfl | rfl | rfl <;> omega))
  show lkP (wdS [a, b, c]) = _
  unfold lkP; rw [hn]
  exact if_pos ⟨by omega, by omega⟩
theorem hdP_W {a b : Int} (h : (-10000 ≤ a ∧ a ≤ 10000) ∧ -10000 ≤ b ∧ b ≤ 10000) : hdP (wdS [a, b]) = some (a, b) := by
  have hn : pvS 5 (wdS [a, b]) = some [a, b] := pvS_wd (by simp) (fun n hn => numV5 (by
    simp only [List.mem_cons, List.not_mem_nil, or_false] at hn
    rcases hn with rfl | rfl <;> omega))
  unfold hdP; rw [hn]
/-- A valid line, written and read again. -/
theorem plE_S {x z : Int} {l : List Lk} (h : (lineE x z l).2 = 0) (hs : (lnS x z l).length ≤ 60000) : plE (lnS x z l) = ((x, z, l), 0) := by
  have hO := lineE_ok.1 h
  have hc : cutG 59 [] (lnS x z l) = wdS [x, z] :: l.map dvW := cut_jn (by simp) (fun y hy => by
    rcases List.mem_cons.1 hy with rfl | hy
    · exact wd_no59 _
    · obtain ⟨d, _, rfl⟩ := List.mem_map.1 hy; exact wd_no59 _)
  rw [plE_of (by omega) hc, plV_y (hdP_W ⟨hO.x, hO.z⟩) (alL_map fun k hk => lkP_W (hO.l k hk)), if_pos h]
theorem fl2_get : ∀ (b : List Rg) (i : Nat), i < b.length → (fl2 b).getD (2 * i) 0 = (b.getD i (0, 0)).1 ∧ (fl2 b).getD (2 * i + 1) 0 = (b.getD i (0, 0)).2
  | [], i, h => absurd h (Nat.not_lt_zero _)
  | r :: b, 0, _ => ⟨rfl, rfl⟩
  | r :: b, i + 1, h => by
    have := fl2_get b i (by simpa using h)
    have e1 : 2 * (i + 1) = 2 * i + 1 + 1 := by omega
    rw [e1]
    exact this
theorem twos_fl2 (b : List Rg) : twos (fl2 b) = b := by
  have hl := fl2_len b
  have h2 : (fl2 b).length / 2 = b.length := by omega
  show accL (twF (fl2 b)) ((fl2 b).length / 2) = b
  rw [h2]
  refine ext_getD (0, 0) (by rw [accL_len]) fun i hi => ?_
  rw [accL_len] at hi
  have := fl2_get b i hi
  rw [accL_get _ hi]
  exact Prod.ext this.1 this.2
/-- A valid box, written and read again. -/
theorem bxE_S {n : Nat} {b : List Rg} (h : (boxE n b).2 = 0) (hs : (bxS b).length ≤ 60000) : bxE (bxS b) = (b, 0) := by
  have hO : ∀ r ∈ b, curOk r.1 ∧ curOk r.2 ∧ r.1 ≤ r.2 := fun r hr => by
    unfold boxE at h
    split at h
    · rw [eachE_ok] at h
      have := h r hr
      rw [rgErr, fstE_ok] at this
      simp only [List.mem_cons, List.not_mem_nil, or_false, forall_eq_or_imp, forall_eq, unl, unb_ok (show (2 : Int) ≠ 0 by decide), unb_ok (show (9 : Int) ≠ 0 by decide), decide_eq_true_eq] at this
      exact ⟨this.1.1, this.1.2, this.2⟩
    · cases h
  by_cases hb : b = []
  · subst hb; rfl
  have hne : fl2 b ≠ [] := fun e => by
    have := fl2_len b
    rw [e] at this
    have h0 : ([] : List Int).length = 0 := rfl
    exact hb (List.length_eq_zero_iff.1 (by omega))
  have hp : pvS 2 (bxS b) = some (fl2 b) := pvS_wd hne (fun n hn => numV2 (by
    obtain ⟨r, hr, hh⟩ := fl2_mem hn
    have := hO r hr
    simp only [curOk] at this
    rcases hh with rfl | rfl <;> omega))
  have hn0 : bxS b ≠ [] := fun e => by
    rw [e] at hp
    have h1 : pvS 2 ([] : By) = none := by decide
    rw [h1] at hp; cases hp
  have hl := fl2_len b
  have h2 : (fl2 b).length / 2 = b.length := by omega
  have hv : bxV (fl2 b) = (twos (fl2 b), 0) := by
    unfold bxV
    rw [if_neg (by omega), if_pos]
    intro i hi
    have := fl2_get b i (by omega)
    show (fl2 b).getD (2 * i) 0 ≤ (fl2 b).getD (2 * i + 1) 0
    rw [this.1, this.2]
    exact (hO _ (getD_mem (0, 0) (by omega))).2.2
  unfold bxE
  rw [if_neg (by omega), if_neg hn0, hp]
  show bxV (fl2 b) = _
  rw [hv, twos_fl2]
end Go.Pw

set_option linter.unusedSimpArgs false
set_option linter.unusedVariables false
namespace Go.Pw
open Go.RowKit Go.Lib
open Go
theorem trim_itoa (n : Int) : trimPrefix (itoa n) [45] = decDigits n.natAbs := by
  by_cases h : n < 0
  · rw [itoa_neg h, trimPrefix]
    have : hasPrefix (45 :: decDigits n.natAbs) [45] = true := by simp [hasPrefix]
    rw [if_pos this]; rfl
  · rw [itoa_nn (by omega), trimPrefix]
    have e : n.toNat = n.natAbs := by omega
    rw [e]
    have : hasPrefix (decDigits n.natAbs) [45] = false := by
      have h45 := head_n45 (u := n.natAbs)
      cases hd : decDigits n.natAbs with
      | nil => rfl
      | cons b r =>
        rw [hd] at h45
        have hb : b ≠ 45 := fun hb => h45 (by rw [hb]; rfl)
        simp [hasPrefix, List.isPrefixOf, Ne.symm hb]
    rw [if_neg (by rw [this]; decide)]
/-- The program's own test of a number. -/
theorem int_iff {s : By} {d n : Int} (hd : d ≤ 18) : (atoiAll s = .ok n ∧ itoa n = s ∧ ((trimPrefix s [45]).length : Int) ≤ d) ↔ numV s d = some n := by
  constructor
  · rintro ⟨h1, h2, h3⟩
    refine (numV_iff hd).2 ⟨h2.symm, ?_⟩
    rw [← h2, trim_itoa] at h3
    exact h3
  · intro h1
    have hi := (numV_i64 hd h1).1
    obtain ⟨h3, h4⟩ := (numV_iff hd).1 h1
    refine ⟨by rw [h3]; exact atoi_itoa hi, h3.symm, ?_⟩
    rw [h3, trim_itoa]; exact h4
end Go.Pw

set_option linter.unusedSimpArgs false
set_option linter.unusedVariables false
set_option maxRecDepth 20000
set_option maxHeartbeats 1000000
namespace Go.Pw
open Go Go.RowKit Go.Lib Go.Sort
open Go.Proofs
theorem RepL.four {Γ : Cx} {w : World} {a b c d : V} {us : Array Value} (h : RepL Γ w [a, b, c, d] us) : ∃ u v x y, us = #[u, v, x, y] ∧ RepV Γ w a u ∧ RepV Γ w b v ∧ RepV Γ w c x ∧ RepV Γ w d y := by
  obtain ⟨us⟩ := us
  have h1 := h.1
  match us, h1 with
  | [u, v, x, y], _ => exact ⟨u, v, x, y, rfl, h.2 0 _ _ rfl rfl, h.2 1 _ _ rfl rfl, h.2 2 _ _ rfl rfl, h.2 3 _ _ rfl rfl⟩
theorem split_bs {s : By} {c : UInt8} : splitB ⟨#[c]⟩ 0 (countB (bs s) ⟨#[c]⟩) (bs s) = (cutG c [] s).map bs := by
  have h := splitB_data ⟨#[c]⟩ 0 (countB (bs s) ⟨#[c]⟩) (bs s)
  have hc : countB (bs s) ⟨#[c]⟩ = s.count c := count_one c s
  have h2 : splitK [c] 0 (countB (bs s) ⟨#[c]⟩) s = cutG c [] s := split_cut _ s hc.symm
  have h3 : (splitB ⟨#[c]⟩ 0 (countB (bs s) ⟨#[c]⟩) (bs s)).map (·.data.toList) = cutG c [] s := h.trans h2
  rw [← h3, List.map_map]
  exact (List.map_id _).symm.trans (List.map_congr_left fun x _ => by simp [bs])
theorem split_sz {s : By} {c : UInt8} : countB (bs s) ⟨#[c]⟩ + 1 = (cutG c [] s).length := by
  have h := splitB_all ⟨#[c]⟩ (Nat.le_refl 1) 0 _ (bs s) rfl
  rw [split_bs, List.length_map] at h
  exact h.symm
theorem C185 {s : By} {c : UInt8} : s.length ≤ 1000000 → PFD Tryz.prog 185 [sv s, .c (.d (.v (.string ⟨#[c]⟩))), vi .i64 0, vi .i64 (-1)] (.c (sts (cutG c [] s))) := fun hs => by
  refine pfd_below Tryz.call185 fun Γ w us hst hr => ?_
  obtain ⟨u, v, x, y, rfl, hu, hv, hx, hy⟩ := hr.four
  cases hu.vv; cases hv.vv; cases hx.vv; cases hy.vv
  have hz : (bs s).size = s.length := bs_size s
  have hle := countB_le ⟨#[c]⟩ (Nat.le_refl 1) (bs s).size (bs s) (Nat.le_refl _)
  have h := Any.strings_genSplit_core sh_lays221 (by kernel_rfl) (bs s) ⟨#[c]⟩ 0 (-1) (countB (bs s) ⟨#[c]⟩ + 1) w (by omega) (Nat.le_refl 1) (Nat.zero_le _)
    (fun x cs hx => by
      refine (sh_strings_Index_one x c (w.alloc (.cells cs 9))).mono ?_
      rintro e w' ⟨rfl, rfl⟩
      exact ⟨by rw [← index_one], rfl⟩)
    (by
      refine (sh_strings_Count_one (bs s) c w).mono ?_
      rintro e w' ⟨rfl, rfl⟩
      refine ⟨?_, rfl⟩
      show _ = Ending.returned (Value.int .i64 ((Lib.count (bs s).data.toList [c] : Nat) : Int))
      rw [count_one]; rfl) (by decide) (by decide) (by rw [if_pos (by decide)]; omega)
  rw [Nat.add_sub_cancel, split_bs, List.length_map, split_sz] at h
  have e2 : Lib.cellsOf ((cutG c [] s).map bs) (cutG c [] s).length = (((cutG c [] s).map bs).map Value.string).toArray := by
    have := Lib.cellsOf_full ((cutG c [] s).map bs)
    rw [List.length_map] at this; exact this
  rw [e2] at h
  refine Calls.mono h ?_
  generalize cutG c [] s = L
  rintro e w' ⟨rfl, rfl⟩
  refine ⟨_, rfl, (Below.refl _ _).alloc (Nat.le_refl _) _, .c _ _ ?_⟩
  refine RepD.sl 1 L.length _ ⟨w.heap.size, 0, none⟩ L.length (fun i j => .string (bs (L.getD i []))) (Nat.le_refl _) (.inr ⟨Nat.le_refl _, by simp⟩) (fun i hi => rfl) ?_ ?_
  · intro i j d hi hj
    have hj0 : j = 0 := by
      have : j < 1 := (List.getElem?_eq_some_iff.1 hj).1
      omega
    subst hj0
    have e : (Addr.mk w.heap.size 0 none).add (i * 1 + 0) = ⟨w.heap.size, i, none⟩ := by
      unfold Addr.add
      split
      · rename_i h0; simp at h0; rw [h0]
      · simp
    rw [e]
    simp only [World.cell?]
    have e3 : (w.alloc (.cells ((L.map bs).map Value.string).toArray 9)).heap[w.heap.size]? = some (.cells ((L.map bs).map Value.string).toArray 9) := by show (w.heap.push _)[w.heap.size]? = _; exact Array.getElem?_push_size ..
    have e4 : (w.alloc (.cells ((L.map bs).map Value.string).toArray (sh_lays221_ren.t 9))).heap[w.heap.size]? = some (.cells ((L.map bs).map Value.string).toArray 9) := e3
    rw [e4]
    show ((L.map bs).map Value.string).toArray[i]? = _
    rw [List.getElem?_toArray, List.getElem?_map, List.getElem?_map, List.getElem?_eq_getElem hi, List.getD_eq_getElem?_getD, List.getElem?_eq_getElem hi]
    rfl
  · intro i j d hi hj
    have hj0 : j = 0 := by
      have : j < 1 := (List.getElem?_eq_some_iff.1 hj).1
      omega
    subst hj0
    injection hj with hj
    rw [← hj]
    exact .v _ rfl
theorem C192 {s : By} {c : UInt8} : PFD Tryz.prog 192 [sv s, .c (.d (.v (.string ⟨#[c]⟩)))] (sv (trimPrefix s [c])) := by
  refine pfd_below Tryz.call192 fun Γ w us hst hr => ?_
  obtain ⟨u, v, rfl, hu, hv⟩ := hr.two
  cases hu.vv; cases hv.vv
  refine (sh_strings_TrimPrefix (bs s) ⟨#[c]⟩ w).mono ?_
  rintro e w' ⟨rfl, rfl⟩
  exact ⟨_, rfl, Below.refl _ _, RepV.dv rfl⟩
end Go.Pw

set_option linter.unusedSimpArgs false
set_option linter.unusedVariables false
set_option maxHeartbeats 1000000
namespace Go.Pw
open Go.RowKit Go.Lib
set_option maxRecDepth 2000
open Go Go.Proofs A1 A2 A3 A4
theorem atoi_i64 {s : By} {v : Int} (h : atoiAll s = .ok v) : i64P v := by
  cases s with
  | nil => cases h
  | cons c r =>
    rw [atoiAll] at h
    split at h
    · cases h
    · cases h
    · rename_i u hu
      split at h
      · cases h
      · split at h
        · cases h
        · rename_i h1 h2
          injection h with h
          subst h
          by_cases hn : c.toNat = 45
          · rw [if_pos hn]
            have : ¬ 9223372036854775808 < u := fun hh => h2 ⟨hn, hh⟩
            omega
          · rw [if_neg hn]
            have : ¬ 9223372036854775808 ≤ u := fun hh => h1 ⟨hn, hh⟩
            omega
theorem C191o {s : By} {v : Int} (h : atoiAll s = .ok v) : s.length ≤ 1000000 → PFD Tryz.prog 191 [sv s] (.tup [vi .i64 v, .c (.d (.v .nilIface))]) := fun hs => by
  have := C191 hs
  unfold atV at this
  rw [h] at this; exact this
theorem C191e {s : By} (h : ∀ v, atoiAll s ≠ .ok v) : s.length ≤ 1000000 → ∃ n, PFD Tryz.prog 191 [sv s] (.tup [vi .i64 n, .c .er]) := fun hs => by
  have := C191 hs
  unfold atV at this
  match e : atoiAll s with
  | .ok v => exact absurd e (h v)
  | Lib.NumEnd.syntax => rw [e] at this; exact ⟨_, this⟩
  | .range => rw [e] at this; exact ⟨_, this⟩
end Go.Pw

set_option linter.unusedSimpArgs false
set_option linter.unusedVariables false
set_option maxHeartbeats 1000000
namespace Go.Pw
open Go.RowKit Go.Lib
set_option maxRecDepth 2000
open Go Go.Proofs A1 A2 A3 A4
theorem C94 {s : By} {c : UInt8} : s.length ≤ 1000000 → PFD Tryz.prog 94 [sv s, .c (.d (.v (.string ⟨#[c]⟩)))] (.c (sts (cutG c [] s))) := fun hs => by
  have h := C185 (c := c) hs
  refine pi1 fn94 ?_
  (repeat' first | (refine Owe.same ?_; first | refine Owe.o ?_ | refine Owe.mk ?_ ?_) | (refine Fork.same ?_; (first | refine fkD ?_ ?_ | refine fkN ?_ ?_ | refine fkM ?_ ?_) <;> intro h) | ((first | refine OpsL.same ?_ | refine OpsDL.same ?_); first | refine pK h rfl rfl ?_) | refine MvQ.stay ?_)
  (refine rqK rfl ?_; (repeat' first | exact rfl | (refine qS ?_; constructor)))
/-- What number() says of a word: permitted is a sign if `neg`. -/
def nmV (s : By) (d : Int) (neg : Bool) : Option Int := match numV s d with
  | some n => if neg = true ∨ 0 ≤ n then some n else none
  | none => none
theorem nmV_none {s : By} {d : Int} {g : Bool} (h : ∀ n, numV s d = some n → (g = true ∨ 0 ≤ n) → False) : nmV s d g = none := by
  unfold nmV
  cases hn : numV s d with
  | none => rfl
  | some n => simp only; rw [if_neg (fun h' => h n hn h')]
theorem nmV_some {s : By} {d n : Int} {g : Bool} (h1 : numV s d = some n) (h2 : g = true ∨ 0 ≤ n) : nmV s d g = some n := by
  unfold nmV; rw [h1]; simp only; rw [if_pos h2]
theorem C98 {s : By} {d : Int} {g : Bool} : (s.length ≤ 1000000 ∧ d ≤ 18) → ∃ v, (∀ n, nmV s d g = some n → v = n) ∧ PFD Tryz.prog 98 [sv s, vi .i64 d, vbl g] (.tup [vi .i64 v, vbl (nmV s d g).isSome]) := fun ⟨hs, hd⟩ => by
  have h192 := C192 (s := s) (c := 45)
  have hz : (bs (trimPrefix s [45])).size = (trimPrefix s [45]).length := bs_size _
  by_cases ha : ∃ v, atoiAll s = .ok v
  · obtain ⟨v, ha⟩ := ha
    have h191 := C191o ha hs
    have h181 := C181 (atoi_i64 ha)
    have only : ∀ {n}, numV s d = some n → n = v := fun hn => by
      have := (int_iff hd).2 hn
      rw [ha] at this
      exact (by have := this.1; injection this with h; exact h.symm)
    have hT : (bs (trimPrefix s [45])).size = (trimPrefix s [45]).length := hz
    by_cases hi : itoa v = s
    · have hi' : (bs (itoa v)).data.toList = (bs s).data.toList := by rw [hi]
      by_cases hl : ((trimPrefix s [45]).length : Int) ≤ d
      · have hn : numV s d = some v := (int_iff hd).1 ⟨ha, hi, hl⟩
        have hl' : (((bs (trimPrefix s [45])).size : Nat) : Int) ≤ d := by rw [hz]; exact hl
        generalize trimPrefix s [45] = T at *
        clear ha hs hd only hl
        by_cases hg : g = true ∨ 0 ≤ v
        · rw [nmV_some hn hg]
          refine ⟨v, fun n h => by injection h, ?_⟩
          have hT : decide (((bs T).size : Int) ≤ d) = true := decide_eq_true hl'
          cases g with
          | true =>
            refine pi2 fn98 ?_
            (repeat' first | (refine Owe.same ?_; first | refine Owe.o ?_ | refine Owe.mk ?_ ?_) | (refine Fork.same ?_; (first | refine fkY ?_ | refine fkF ?_ | ((first | refine fkD ?_ ?_ | refine fkN ?_ ?_ | refine fkM ?_ ?_) <;> (intro h; try (exfalso; omega))))) | ((first | refine OpsL.same ?_ | refine OpsDL.same ?_); first | refine oK h191 rfl rfl rfl ?_ | refine oK h181 rfl rfl rfl ?_ | refine oK h192 rfl rfl rfl ?_) | refine MvQ.stay ?_)
            (refine rqK rfl ?_; (repeat' first | exact rfl | (refine qS ?_; constructor)))
            exact hT
          | false =>
            have hg : 0 ≤ v := by rcases hg with h | h; exact absurd h (by decide); exact h
            refine pi2 fn98 ?_
            (repeat' first | (refine Owe.same ?_; first | refine Owe.o ?_ | refine Owe.mk ?_ ?_) | (refine Fork.same ?_; (first | refine fkY ?_ | refine fkF ?_ | ((first | refine fkD ?_ ?_ | refine fkN ?_ ?_ | refine fkM ?_ ?_) <;> (intro h; try (exfalso; omega))))) | ((first | refine OpsL.same ?_ | refine OpsDL.same ?_); first | refine oK h191 rfl rfl rfl ?_ | refine oK h181 rfl rfl rfl ?_ | refine oK h192 rfl rfl rfl ?_) | refine MvQ.stay ?_)
            (refine rqK rfl ?_; (repeat' first | exact rfl | (refine qS ?_; constructor)))
            exact hT
        · rw [nmV_none (fun n h h2 => by rw [hn] at h; injection h with h; exact hg (h ▸ h2))]
          refine ⟨v, (fun n h => (by cases h)), ?_⟩
          have hg1 : g = false := by cases g; rfl; exact absurd (.inl rfl) hg
          have hg2 : v < 0 := by omega
          subst hg1
          refine pi2 fn98 ?_
          (repeat' first | (refine Owe.same ?_; first | refine Owe.o ?_ | refine Owe.mk ?_ ?_) | (refine Fork.same ?_; (first | refine fkY ?_ | refine fkF ?_ | ((first | refine fkD ?_ ?_ | refine fkN ?_ ?_ | refine fkM ?_ ?_) <;> (intro h; try (exfalso; omega))))) | ((first | refine OpsL.same ?_ | refine OpsDL.same ?_); first | refine oK h191 rfl rfl rfl ?_ | refine oK h181 rfl rfl rfl ?_ | refine oK h192 rfl rfl rfl ?_) | refine MvQ.stay ?_)
          (refine rqK rfl ?_; (repeat' first | exact rfl | (refine qS ?_; constructor)))
      · have hl' : ¬ (((bs (trimPrefix s [45])).size : Nat) : Int) ≤ d := by rw [hz]; exact hl
        have hT : decide (((bs (trimPrefix s [45])).size : Int) ≤ d) = false := decide_eq_false hl'
        rw [nmV_none (fun n h _ => hl ((int_iff hd).2 h).2.2)]
        refine ⟨v, (fun n h => (by cases h)), ?_⟩
        generalize trimPrefix s [45] = T at *
        clear ha hs hd only hl
        cases g with
        | true =>
          refine pi2 fn98 ?_
          (repeat' first | (refine Owe.same ?_; first | refine Owe.o ?_ | refine Owe.mk ?_ ?_) | (refine Fork.same ?_; (first | refine fkY ?_ | refine fkF ?_ | ((first | refine fkD ?_ ?_ | refine fkN ?_ ?_ | refine fkM ?_ ?_) <;> (intro h; try (exfalso; omega))))) | ((first | refine OpsL.same ?_ | refine OpsDL.same ?_); first | refine oK h191 rfl rfl rfl ?_ | refine oK h181 rfl rfl rfl ?_ | refine oK h192 rfl rfl rfl ?_) | refine MvQ.stay ?_)
          (refine rqK rfl ?_; (repeat' first | exact rfl | (refine qS ?_; constructor)))
          exact hT
        | false =>
          by_cases hg : 0 ≤ v
          · refine pi2 fn98 ?_
            (repeat' first | (refine Owe.same ?_; first | refine Owe.o ?_ | refine Owe.mk ?_ ?_) | (refine Fork.same ?_; (first | refine fkY ?_ | refine fkF ?_ | ((first | refine fkD ?_ ?_ | refine fkN ?_ ?_ | refine fkM ?_ ?_) <;> (intro h; try (exfalso; omega))))) | ((first | refine OpsL.same ?_ | refine OpsDL.same ?_); first | refine oK h191 rfl rfl rfl ?_ | refine oK h181 rfl rfl rfl ?_ | refine oK h192 rfl rfl rfl ?_) | refine MvQ.stay ?_)
            (refine rqK rfl ?_; (repeat' first | exact rfl | (refine qS ?_; constructor)))
            exact hT
          · refine pi2 fn98 ?_
            (repeat' first | (refine Owe.same ?_; first | refine Owe.o ?_ | refine Owe.mk ?_ ?_) | (refine Fork.same ?_; (first | refine fkY ?_ | refine fkF ?_ | ((first | refine fkD ?_ ?_ | refine fkN ?_ ?_ | refine fkM ?_ ?_) <;> (intro h; try (exfalso; omega))))) | ((first | refine OpsL.same ?_ | refine OpsDL.same ?_); first | refine oK h191 rfl rfl rfl ?_ | refine oK h181 rfl rfl rfl ?_ | refine oK h192 rfl rfl rfl ?_) | refine MvQ.stay ?_)
            (refine rqK rfl ?_; (repeat' first | exact rfl | (refine qS ?_; constructor)))
    · have hi' : ¬ (bs (itoa v)).data.toList = (bs s).data.toList := fun h => hi h
      rw [nmV_none (fun n h _ => hi (by have h1 := only h; have h2 := ((int_iff hd).2 h).2.1; rw [h1] at h2; exact h2))]
      refine ⟨v, (fun n h => (by cases h)), ?_⟩
      clear ha hs hd only
      refine pi2 fn98 ?_
      (repeat' first | (refine Owe.same ?_; first | refine Owe.o ?_ | refine Owe.mk ?_ ?_) | (refine Fork.same ?_; (first | refine fkY ?_ | refine fkF ?_ | ((first | refine fkD ?_ ?_ | refine fkN ?_ ?_ | refine fkM ?_ ?_) <;> (intro h; try (exfalso; omega))))) | ((first | refine OpsL.same ?_ | refine OpsDL.same ?_); first | refine oK h191 rfl rfl rfl ?_ | refine oK h181 rfl rfl rfl ?_ | refine oK h192 rfl rfl rfl ?_) | refine MvQ.stay ?_)
      (refine rqK rfl ?_; (repeat' first | exact rfl | (refine qS ?_; constructor)))
  · obtain ⟨n, h191⟩ := C191e (fun v h => ha ⟨v, h⟩) hs
    rw [nmV_none (fun n h _ => ha ⟨n, ((int_iff hd).2 h).1⟩)]
    refine ⟨n, (fun n h => (by cases h)), ?_⟩
    clear ha
    refine pi2 fn98 ?_
    (repeat' first | (refine Owe.same ?_; first | refine Owe.o ?_ | refine Owe.mk ?_ ?_) | (refine Fork.same ?_; (first | refine fkY ?_ | refine fkF ?_ | ((first | refine fkD ?_ ?_ | refine fkN ?_ ?_ | refine fkM ?_ ?_) <;> (intro h; try (exfalso; omega))))) | ((first | refine OpsL.same ?_ | refine OpsDL.same ?_); first | refine oK h191 rfl rfl rfl ?_) | refine MvQ.stay ?_)
    (refine rqK rfl ?_; (repeat' first | exact rfl | (refine qS ?_; constructor)))
end Go.Pw
