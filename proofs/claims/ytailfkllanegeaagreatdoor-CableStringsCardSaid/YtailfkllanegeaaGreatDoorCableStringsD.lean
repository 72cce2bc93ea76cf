/- Steps toward the row of this claim: part 4 of 6. Proved as named below, on no condition but those that each theorem states. -/
import Derived.Test.YtailfkllanegeaaGreatDoorCableStringsC
import Derived.Test.YtailfkllanegeaaGreatDoorProg
import Derived.KernelRfl
set_option linter.unusedVariables false
set_option maxHeartbeats 2000000
set_option maxRecDepth 100000
namespace Go.Pw
open Go Go.Proofs
/-- moonpool/cable.words -/
def lc92 : LCode :=
  (.seq (.region [⟨some 2, .mv (.const (.string ⟨#[]⟩)), none⟩]) (.seq (.region [⟨some 3, .mv (.const (.slice none 0 0)), none⟩]) (.seq (.seq (.region [⟨some 6, .mv (.tmp 0), none⟩,
    ⟨some 7, .len (.tmp 6), none⟩, ⟨some 8, .mv (.const (.int .i64 0)), none⟩]) (.block 0 (.loop (.seq (.region [⟨some 9, .bin .lss (.tmp 8) (.tmp 7), none⟩]) (.seq (.cond (.tmp 9)
    .skip (.exit 0)) (.seq (.block 1 (.seq (.region [⟨some 10, .idx 1 (.tmp 6) (.tmp 8), none⟩, ⟨some 11, .load false 1 (.tmp 10), none⟩, ⟨some 5, .mv (.tmp 11), none⟩]) (.region
    [⟨some 12, .mv (.tmp 3), none⟩, ⟨some 13, .mv (.tmp 5), none⟩, ⟨some 14, .call (.func 181) [(.tmp 13)], none⟩, ⟨some 15, .lit false 9 1 [(.tmp 14)], none⟩, ⟨some 16, .append
    true 9 1 16 (.tmp 12) (.tmp 15), none⟩, ⟨some 3, .mv (.tmp 16), none⟩]))) (.region [⟨some 17, .bin .add (.tmp 8) (.const (.int .i64 1)), none⟩, ⟨some 8, .mv (.tmp 17),
    none⟩]))))))) (.seq (.region [⟨some 18, .mv (.tmp 3), none⟩, ⟨some 19, .call (.func 93) [(.tmp 18), (.const (.string ⟨#[32]⟩))], none⟩, ⟨some 2, .mv (.tmp 19), none⟩]) .ret))))
theorem low92 : lowF Tryz.prog [16] Tryz.f92 = some (20, lc92.strip, [.tmp 2]) := by kernel_rfl
theorem fn92 : FnOk Tryz.prog 92 20 lc92 [.tmp 2] := ⟨Tryz.call92, [16], _, Tryz.func92, low92⟩
/-- strings.Split -/
def lc94 : LCode :=
  (.seq (.region [⟨some 4, .mv (.const (.slice none 0 0)), none⟩]) (.seq (.region [⟨some 5, .mv (.tmp 0), none⟩, ⟨some 6, .mv (.tmp 1), none⟩, ⟨some 7, .call (.func 185) [(.tmp 5),
    (.tmp 6), (.const (.int .i64 0)), (.const (.int .i64 (-1)))], none⟩, ⟨some 4, .mv (.tmp 7), none⟩]) .ret))
theorem low94 : lowF Tryz.prog [] Tryz.f94 = some (8, lc94.strip, [.tmp 4]) := by kernel_rfl
theorem fn94 : FnOk Tryz.prog 94 8 lc94 [.tmp 4] := ⟨Tryz.call94, [], _, Tryz.func94, low94⟩
/-- moonpool/cable.fill -/
def lc95 : LCode :=
  (.seq (.region [⟨some 6, .mv (.const (.bool false)), none⟩]) (.seq (.region [⟨some 12, .mv (.tmp 0), none⟩, ⟨some 13, .call (.func 94) [(.tmp 12), (.const (.string ⟨#[32]⟩))],
    none⟩, ⟨some 7, .mv (.tmp 13), none⟩]) (.seq (.seq (.region [⟨some 14, .mv (.tmp 7), none⟩, ⟨some 15, .len (.tmp 14), none⟩, ⟨some 16, .mv (.tmp 2), none⟩, ⟨some 17, .len (.tmp
    16), none⟩, ⟨some 18, .bin .neq (.tmp 15) (.tmp 17), none⟩]) (.cond (.tmp 18) (.seq (.region [⟨some 6, .mv (.const (.bool false)), none⟩]) .ret) .skip)) (.seq (.seq (.region
    [⟨some 19, .mv (.tmp 2), none⟩, ⟨some 20, .len (.tmp 19), none⟩, ⟨some 21, .mv (.const (.int .i64 0)), none⟩]) (.block 0 (.loop (.seq (.region [⟨some 22, .bin .lss (.tmp 21)
    (.tmp 20), none⟩]) (.seq (.cond (.tmp 22) .skip (.exit 0)) (.seq (.block 1 (.seq (.region [⟨some 23, .mv (.tmp 21), none⟩, ⟨some 24, .idx 1 (.tmp 19) (.tmp 21), none⟩, ⟨some 25,
    .load false 1 (.tmp 24), none⟩, ⟨some 8, .mv (.tmp 23), none⟩, ⟨some 9, .mv (.tmp 25), none⟩]) (.seq (.regionD [⟨some 27, .mv (.tmp 7), none⟩, ⟨some 28, .mv (.tmp 8), none⟩,
    ⟨some 29, .idx 1 (.tmp 27) (.tmp 28), none⟩, ⟨some 30, .load false 1 (.tmp 29), none⟩, ⟨some 31, .mv (.tmp 1), none⟩, ⟨some 32, .mv (.tmp 8), none⟩, ⟨some 33, .call (.func 186)
    [(.tmp 31), (.tmp 32)], none⟩, ⟨some 34, .call (.func 98) [(.tmp 30), (.const (.int .i64 5)), (.tmp 33)], none⟩, ⟨some 26, .mv (.tmp 34), none⟩, ⟨some 35, .ext (.tmp 26) 0,
    none⟩, ⟨some 36, .ext (.tmp 26) 1, none⟩, ⟨some 10, .mv (.tmp 35), none⟩, ⟨some 11, .mv (.tmp 36), none⟩] [0, 0, 3, 7, 0, 0, 48, 127, 255, 511, 511, 1023, 4095] [0, 1, 2, 3, 4,
    5, 6, 7, 8, 9, 10, 11, 12]) (.seq (.seq (.region [⟨some 37, .mv (.tmp 11), none⟩, ⟨some 38, .un .not (.tmp 37), none⟩]) (.cond (.tmp 38) (.seq (.region [⟨some 6, .mv (.const
    (.bool false)), none⟩]) .ret) .skip)) (.region [⟨some 39, .mv (.tmp 9), none⟩, ⟨some 40, .mv (.tmp 10), none⟩, ⟨some 41, .nilc (.tmp 39), none⟩, ⟨none, .store 1 (.tmp 41) (.tmp
    40), none⟩]))))) (.region [⟨some 42, .bin .add (.tmp 21) (.const (.int .i64 1)), none⟩, ⟨some 21, .mv (.tmp 42), none⟩]))))))) (.seq (.region [⟨some 6, .mv (.const (.bool
    true)), none⟩]) .ret)))))
theorem low95 : lowF Tryz.prog [] Tryz.f95 = some (43, lc95.strip, [.tmp 6]) := by kernel_rfl
theorem fn95 : FnOk Tryz.prog 95 43 lc95 [.tmp 6] := ⟨Tryz.call95, [], _, Tryz.func95, low95⟩
/-- moonpool/cable.CheckLine -/
def lc96 : LCode :=
  (.seq (.region [⟨some 1, .box (.tmp 0), none⟩, ⟨some 2, .mv (.const (.int .i64 0)), none⟩, ⟨some 3, .mv (.const (.int .i64 0)), none⟩]) (.seq (.regionD [⟨some 5, .fld 0 (.tmp 1),
    none⟩, ⟨some 6, .fld 0 (.tmp 5), none⟩, ⟨some 7, .load false 1 (.tmp 6), none⟩, ⟨some 8, .call (.func 187) [(.tmp 7), (.const (.int .i64 10000))], none⟩, ⟨some 9, .mv (.tmp 8),
    none⟩, ⟨some 10, .fld 0 (.tmp 1), some (9, true)⟩, ⟨some 11, .fld 1 (.tmp 10), some (9, true)⟩, ⟨some 12, .load false 1 (.tmp 11), some (9, true)⟩, ⟨some 13, .call (.func 187)
    [(.tmp 12), (.const (.int .i64 10000))], some (9, true)⟩, ⟨some 14, .pick (.tmp 9) (.tmp 13) (.const (.bool false)), none⟩, ⟨some 15, .call (.func 125) [(.tmp 14), (.const (.int
    .i64 2))], none⟩, ⟨some 16, .fld 2 (.tmp 1), none⟩, ⟨some 17, .load false 1 (.tmp 16), none⟩, ⟨some 18, .len (.tmp 17), none⟩, ⟨some 19, .bin .gtr (.tmp 18) (.const (.int .i64
    0)), none⟩, ⟨some 20, .call (.func 125) [(.tmp 19), (.const (.int .i64 10))], none⟩, ⟨some 21, .fld 2 (.tmp 1), none⟩, ⟨some 22, .load false 1 (.tmp 21), none⟩, ⟨some 23, .len
    (.tmp 22), none⟩, ⟨some 24, .bin .leq (.tmp 23) (.const (.int .i64 10)), none⟩, ⟨some 25, .call (.func 125) [(.tmp 24), (.const (.int .i64 8))], none⟩, ⟨some 26, .lit false 34 1
    [(.tmp 15), (.tmp 20), (.tmp 25)], none⟩, ⟨some 27, .call (.func 124) [(.tmp 26)], none⟩, ⟨some 4, .mv (.tmp 27), none⟩] [0, 1, 3, 7, 15, 31, 63, 127, 255, 511, 1023, 0, 2048,
    6144, 14336, 32767, 0, 65536, 196608, 458752, 1048575, 2097151, 4194303, 8388607] [0, 1, 2, 3, 4, 5, 6, 7, 8, 9, 10, 11, 12, 13, 14, 15, 16, 17, 18, 19, 20, 21, 22, 23]) (.seq
    (.seq (.region [⟨some 28, .mv (.tmp 4), none⟩, ⟨some 29, .bin .neq (.tmp 28) (.const (.int .i64 0)), none⟩]) (.cond (.tmp 29) (.seq (.region [⟨some 30, .mv (.tmp 4), none⟩,
    ⟨some 2, .mv (.const (.int .i64 0)), none⟩, ⟨some 3, .mv (.tmp 30), none⟩]) .ret) .skip)) (.seq (.region [⟨some 31, .fld 2 (.tmp 1), none⟩, ⟨some 32, .load false 1 (.tmp 31),
    none⟩, ⟨some 33, .call (.func 188) [(.tmp 32), (.func 189)], none⟩, ⟨some 34, .ext (.tmp 33) 0, none⟩, ⟨some 35, .ext (.tmp 33) 1, none⟩, ⟨some 2, .mv (.tmp 34), none⟩, ⟨some 3,
    .mv (.tmp 35), none⟩]) .ret))))
theorem low96 : lowF Tryz.prog [] Tryz.f96 = some (36, lc96.strip, [.tmp 2, .tmp 3]) := by kernel_rfl
theorem fn96 : FnOk Tryz.prog 96 36 lc96 [.tmp 2, .tmp 3] := ⟨Tryz.call96, [], _, Tryz.func96, low96⟩
/-- moonpool/cable.number -/
def lc98 : LCode :=
  (.seq (.region [⟨some 6, .mv (.const (.int .i64 0)), none⟩, ⟨some 7, .mv (.const (.bool false)), none⟩]) (.seq (.region [⟨some 11, .mv (.tmp 0), none⟩, ⟨some 12, .call (.func 191)
    [(.tmp 11)], none⟩, ⟨some 10, .mv (.tmp 12), none⟩, ⟨some 13, .ext (.tmp 10) 0, none⟩, ⟨some 14, .ext (.tmp 10) 1, none⟩, ⟨some 8, .mv (.tmp 13), none⟩, ⟨some 9, .mv (.tmp 14),
    none⟩]) (.seq (.region [⟨some 15, .mv (.tmp 8), none⟩, ⟨some 16, .mv (.tmp 9), none⟩, ⟨some 17, .nilI false (.tmp 16) (.const .nilIface), none⟩, ⟨some 18, .mv (.tmp 17), none⟩,
    ⟨some 19, .mv (.tmp 8), some (18, true)⟩, ⟨some 20, .call (.func 181) [(.tmp 19)], some (18, true)⟩, ⟨some 21, .mv (.tmp 0), some (18, true)⟩, ⟨some 22, .eqS false (.tmp 20)
    (.tmp 21), some (18, true)⟩, ⟨some 23, .pick (.tmp 18) (.tmp 22) (.const (.bool false)), none⟩, ⟨some 24, .mv (.tmp 23), none⟩, ⟨some 25, .mv (.tmp 2), some (24, true)⟩, ⟨some
    26, .mv (.tmp 25), some (24, true)⟩, ⟨some 27, .mv (.tmp 8), some (26, false)⟩, ⟨some 28, .bin .geq (.tmp 27) (.const (.int .i64 0)), some (26, false)⟩, ⟨some 29, .pick (.tmp
    26) (.const (.bool true)) (.tmp 28), some (24, true)⟩, ⟨some 30, .pick (.tmp 24) (.tmp 29) (.const (.bool false)), none⟩, ⟨some 31, .mv (.tmp 30), none⟩, ⟨some 32, .mv (.tmp 0),
    some (31, true)⟩, ⟨some 33, .call (.func 192) [(.tmp 32), (.const (.string ⟨#[45]⟩))], some (31, true)⟩, ⟨some 34, .lenS (.tmp 33), some (31, true)⟩, ⟨some 35, .mv (.tmp 1),
    some (31, true)⟩, ⟨some 36, .bin .leq (.tmp 34) (.tmp 35), some (31, true)⟩, ⟨some 37, .pick (.tmp 31) (.tmp 36) (.const (.bool false)), none⟩, ⟨some 6, .mv (.tmp 15), none⟩,
    ⟨some 7, .mv (.tmp 37), none⟩]) .ret)))
theorem low98 : lowF Tryz.prog [] Tryz.f98 = some (38, lc98.strip, [.tmp 6, .tmp 7]) := by kernel_rfl
theorem fn98 : FnOk Tryz.prog 98 38 lc98 [.tmp 6, .tmp 7] := ⟨Tryz.call98, [], _, Tryz.func98, low98⟩
/-- slices.ContainsFunc[[]moonpool/api.Range,moonpool/api.Range] -/
def lc99 : LCode :=
  (.seq (.region [⟨some 4, .mv (.const (.bool false)), none⟩]) (.seq (.region [⟨some 5, .mv (.tmp 0), none⟩, ⟨some 6, .mv (.tmp 1), none⟩, ⟨some 7, .call (.func 193) [(.tmp 5),
    (.tmp 6)], none⟩, ⟨some 8, .bin .geq (.tmp 7) (.const (.int .i64 0)), none⟩, ⟨some 4, .mv (.tmp 8), none⟩]) .ret))
theorem low99 : lowF Tryz.prog [] Tryz.f99 = some (9, lc99.strip, [.tmp 4]) := by kernel_rfl
theorem fn99 : FnOk Tryz.prog 99 9 lc99 [.tmp 4] := ⟨Tryz.call99, [], _, Tryz.func99, low99⟩
/-- moonpool/cable.ParseBox$1 -/
def lc100 : LCode :=
  (.seq (.region [⟨some 1, .boxS (.tmp 0), none⟩, ⟨some 2, .mv (.const (.bool false)), none⟩]) (.seq (.region [⟨some 3, .fld 0 (.tmp 1), none⟩, ⟨some 4, .load false 1 (.tmp 3),
    none⟩, ⟨some 5, .fld 1 (.tmp 1), none⟩, ⟨some 6, .load false 1 (.tmp 5), none⟩, ⟨some 7, .bin .gtr (.tmp 4) (.tmp 6), none⟩, ⟨some 2, .mv (.tmp 7), none⟩]) .ret))
theorem low100 : lowF Tryz.prog [1] Tryz.f100 = some (8, lc100.strip, [.tmp 2]) := by kernel_rfl
theorem fn100 : FnOk Tryz.prog 100 8 lc100 [.tmp 2] := ⟨Tryz.call100, [1], _, Tryz.func100, low100⟩
/-- moonpool/moonpoolbase.Cut -/
def lc101 : LCode :=
  (.seq (.region [⟨some 4, .mv (.const (.slice none 0 0)), none⟩]) (.seq (.region [⟨some 5, .mv (.const (.slice none 0 0)), none⟩]) (.seq (.region [⟨some 6, .mv (.const (.int .i64
    0)), none⟩]) (.seq (.seq (.region [⟨some 7, .mv (.const (.int .i64 0)), none⟩]) (.block 0 (.loop (.seq (.seq (.region [⟨some 8, .mv (.tmp 7), none⟩, ⟨some 9, .mv (.tmp 0),
    none⟩, ⟨some 10, .lenS (.tmp 9), none⟩, ⟨some 11, .bin .lss (.tmp 8) (.tmp 10), none⟩]) (.cond (.tmp 11) .skip (.exit 0))) (.seq (.block 1 (.seq (.region [⟨some 14, .mv (.tmp
    0), none⟩, ⟨some 15, .mv (.tmp 7), none⟩, ⟨some 16, .indexS (.tmp 14) (.tmp 15), none⟩, ⟨some 17, .mv (.tmp 1), none⟩, ⟨some 18, .bin .eql (.tmp 16) (.tmp 17), none⟩]) (.cond
    (.tmp 18) (.seq (.region [⟨some 19, .mv (.tmp 5), none⟩, ⟨some 20, .mv (.tmp 0), none⟩, ⟨some 21, .mv (.tmp 6), none⟩, ⟨some 22, .mv (.tmp 7), none⟩, ⟨some 23, .slcS (.tmp 20)
    (some (.tmp 21)) (some (.tmp 22)), none⟩, ⟨some 24, .lit false 9 1 [(.tmp 23)], none⟩, ⟨some 25, .append true 9 1 16 (.tmp 19) (.tmp 24), none⟩, ⟨some 5, .mv (.tmp 25), none⟩])
    (.region [⟨some 26, .mv (.tmp 7), none⟩, ⟨some 27, .bin .add (.tmp 26) (.const (.int .i64 1)), none⟩, ⟨some 6, .mv (.tmp 27), none⟩])) .skip))) (.region [⟨some 12, .mv (.tmp 7),
    none⟩, ⟨some 13, .bin .add (.tmp 12) (.const (.int .i64 1)), none⟩, ⟨some 7, .mv (.tmp 13), none⟩])))))) (.seq (.region [⟨some 28, .mv (.tmp 5), none⟩, ⟨some 29, .mv (.tmp 0),
    none⟩, ⟨some 30, .mv (.tmp 6), none⟩, ⟨some 31, .slcS (.tmp 29) (some (.tmp 30)) none, none⟩, ⟨some 32, .lit false 9 1 [(.tmp 31)], none⟩, ⟨some 33, .append true 9 1 16 (.tmp
    28) (.tmp 32), none⟩, ⟨some 4, .mv (.tmp 33), none⟩]) .ret)))))
theorem low101 : lowF Tryz.prog [25, 33] Tryz.f101 = some (34, lc101.strip, [.tmp 4]) := by kernel_rfl
theorem fn101 : FnOk Tryz.prog 101 34 lc101 [.tmp 4] := ⟨Tryz.call101, [25, 33], _, Tryz.func101, low101⟩
/-- moonpool/moonpoolref01.parse -/
def lc102 : LCode :=
  (.seq (.region [⟨some 4, .mv (.const (.slice none 0 0)), none⟩, ⟨some 5, .mv (.const (.bool false)), none⟩]) (.seq (.region [⟨some 11, .mv (.tmp 0), none⟩, ⟨some 12, .call (.func
    101) [(.tmp 11), (.const (.int .u8 32))], none⟩, ⟨some 6, .mv (.tmp 12), none⟩]) (.seq (.region [⟨some 7, .mv (.const (.slice none 0 0)), none⟩]) (.seq (.seq (.region [⟨some 8,
    .mv (.const (.int .i64 0)), none⟩]) (.block 0 (.loop (.seq (.seq (.region [⟨some 13, .mv (.tmp 8), none⟩, ⟨some 14, .mv (.tmp 6), none⟩, ⟨some 15, .len (.tmp 14), none⟩, ⟨some
    16, .bin .lss (.tmp 13) (.tmp 15), none⟩]) (.cond (.tmp 16) .skip (.exit 0))) (.seq (.block 1 (.seq (.region [⟨some 20, .mv (.tmp 6), none⟩, ⟨some 21, .mv (.tmp 8), none⟩, ⟨some
    22, .idx 1 (.tmp 20) (.tmp 21), none⟩, ⟨some 23, .load false 1 (.tmp 22), none⟩, ⟨some 24, .mv (.tmp 1), none⟩, ⟨some 25, .call (.func 194) [(.tmp 23), (.tmp 24)], none⟩, ⟨some
    19, .mv (.tmp 25), none⟩, ⟨some 26, .ext (.tmp 19) 0, none⟩, ⟨some 27, .ext (.tmp 19) 1, none⟩, ⟨some 9, .mv (.tmp 26), none⟩, ⟨some 10, .mv (.tmp 27), none⟩]) (.seq (.seq
    (.region [⟨some 28, .mv (.tmp 10), none⟩, ⟨some 29, .un .not (.tmp 28), none⟩]) (.cond (.tmp 29) (.seq (.region [⟨some 4, .mv (.const (.slice none 0 0)), none⟩, ⟨some 5, .mv
    (.const (.bool false)), none⟩]) .ret) .skip)) (.region [⟨some 30, .mv (.tmp 7), none⟩, ⟨some 31, .mv (.tmp 9), none⟩, ⟨some 32, .lit false 3 1 [(.tmp 31)], none⟩, ⟨some 33,
    .append true 3 1 8 (.tmp 30) (.tmp 32), none⟩, ⟨some 7, .mv (.tmp 33), none⟩])))) (.region [⟨some 17, .mv (.tmp 8), none⟩, ⟨some 18, .bin .add (.tmp 17) (.const (.int .i64 1)),
    none⟩, ⟨some 8, .mv (.tmp 18), none⟩])))))) (.seq (.region [⟨some 34, .mv (.tmp 7), none⟩, ⟨some 4, .mv (.tmp 34), none⟩, ⟨some 5, .mv (.const (.bool true)), none⟩]) .ret)))))
theorem low102 : lowF Tryz.prog [33] Tryz.f102 = some (35, lc102.strip, [.tmp 4, .tmp 5]) := by kernel_rfl
theorem fn102 : FnOk Tryz.prog 102 35 lc102 [.tmp 4, .tmp 5] := ⟨Tryz.call102, [33], _, Tryz.func102, low102⟩
/-- moonpool/moonpoolref01.joined -/
def lc103 : LCode :=
  (.seq (.region [⟨some 2, .mv (.const (.string ⟨#[]⟩)), none⟩]) (.seq (.region [⟨some 3, .mv (.const (.string ⟨#[]⟩)), none⟩]) (.seq (.seq (.region [⟨some 4, .mv (.const (.int .i64
    0)), none⟩]) (.block 0 (.loop (.seq (.seq (.region [⟨some 5, .mv (.tmp 4), none⟩, ⟨some 6, .mv (.tmp 0), none⟩, ⟨some 7, .len (.tmp 6), none⟩, ⟨some 8, .bin .lss (.tmp 5) (.tmp
    7), none⟩]) (.cond (.tmp 8) .skip (.exit 0))) (.seq (.block 1 (.seq (.seq (.region [⟨some 11, .mv (.tmp 4), none⟩, ⟨some 12, .bin .gtr (.tmp 11) (.const (.int .i64 0)), none⟩])
    (.cond (.tmp 12) (.region [⟨some 13, .mv (.tmp 3), none⟩, ⟨some 14, .catS (.tmp 13) (.const (.string ⟨#[32]⟩)), none⟩, ⟨some 3, .mv (.tmp 14), none⟩]) .skip)) (.region [⟨some
    15, .mv (.tmp 3), none⟩, ⟨some 16, .mv (.tmp 0), none⟩, ⟨some 17, .mv (.tmp 4), none⟩, ⟨some 18, .idx 1 (.tmp 16) (.tmp 17), none⟩, ⟨some 19, .load false 1 (.tmp 18), none⟩,
    ⟨some 20, .call (.func 115) [(.tmp 19)], none⟩, ⟨some 21, .catS (.tmp 15) (.tmp 20), none⟩, ⟨some 3, .mv (.tmp 21), none⟩]))) (.region [⟨some 9, .mv (.tmp 4), none⟩, ⟨some 10,
    .bin .add (.tmp 9) (.const (.int .i64 1)), none⟩, ⟨some 4, .mv (.tmp 10), none⟩])))))) (.seq (.region [⟨some 22, .mv (.tmp 3), none⟩, ⟨some 2, .mv (.tmp 22), none⟩]) .ret))))
theorem low103 : lowF Tryz.prog [] Tryz.f103 = some (23, lc103.strip, [.tmp 2]) := by kernel_rfl
theorem fn103 : FnOk Tryz.prog 103 23 lc103 [.tmp 2] := ⟨Tryz.call103, [], _, Tryz.func103, low103⟩
/-- moonpool/moonpoolref01.CheckLine -/
def lc104 : LCode :=
  (.seq (.region [⟨some 1, .box (.tmp 0), none⟩, ⟨some 2, .mv (.const (.int .i64 0)), none⟩, ⟨some 3, .mv (.const (.int .i64 0)), none⟩]) (.seq (.region [⟨some 4, .mv (.const (.int
    .i64 10000)), none⟩]) (.seq (.seq (.region [⟨some 7, .fld 0 (.tmp 1), none⟩, ⟨some 8, .fld 0 (.tmp 7), none⟩, ⟨some 9, .load false 1 (.tmp 8), none⟩, ⟨some 10, .mv (.tmp 4),
    none⟩, ⟨some 11, .un .neg (.tmp 10), none⟩, ⟨some 12, .mv (.tmp 4), none⟩, ⟨some 13, .call (.func 46) [(.tmp 9), (.tmp 11), (.tmp 12)], none⟩, ⟨some 14, .un .not (.tmp 13),
    none⟩, ⟨some 15, .mv (.tmp 14), none⟩, ⟨some 16, .fld 0 (.tmp 1), some (15, false)⟩, ⟨some 17, .fld 1 (.tmp 16), some (15, false)⟩, ⟨some 18, .load false 1 (.tmp 17), some (15,
    false)⟩, ⟨some 19, .mv (.tmp 4), some (15, false)⟩, ⟨some 20, .un .neg (.tmp 19), some (15, false)⟩, ⟨some 21, .mv (.tmp 4), some (15, false)⟩, ⟨some 22, .call (.func 46) [(.tmp
    18), (.tmp 20), (.tmp 21)], some (15, false)⟩, ⟨some 23, .un .not (.tmp 22), some (15, false)⟩, ⟨some 24, .pick (.tmp 15) (.const (.bool true)) (.tmp 23), none⟩]) (.cond (.tmp
    24) (.seq (.region [⟨some 2, .mv (.const (.int .i64 0)), none⟩, ⟨some 3, .mv (.const (.int .i64 2)), none⟩]) .ret) .skip)) (.seq (.seq (.region [⟨some 25, .fld 2 (.tmp 1),
    none⟩, ⟨some 26, .load false 1 (.tmp 25), none⟩, ⟨some 27, .len (.tmp 26), none⟩, ⟨some 28, .bin .eql (.tmp 27) (.const (.int .i64 0)), none⟩]) (.cond (.tmp 28) (.seq (.region
    [⟨some 2, .mv (.const (.int .i64 0)), none⟩, ⟨some 3, .mv (.const (.int .i64 10)), none⟩]) .ret) .skip)) (.seq (.seq (.region [⟨some 29, .fld 2 (.tmp 1), none⟩, ⟨some 30, .load
    false 1 (.tmp 29), none⟩, ⟨some 31, .len (.tmp 30), none⟩, ⟨some 32, .bin .gtr (.tmp 31) (.const (.int .i64 10)), none⟩]) (.cond (.tmp 32) (.seq (.region [⟨some 2, .mv (.const
    (.int .i64 0)), none⟩, ⟨some 3, .mv (.const (.int .i64 8)), none⟩]) .ret) .skip)) (.seq (.seq (.region [⟨some 5, .mv (.const (.int .i64 0)), none⟩]) (.block 0 (.loop (.seq (.seq
    (.region [⟨some 33, .mv (.tmp 5), none⟩, ⟨some 34, .fld 2 (.tmp 1), none⟩, ⟨some 35, .load false 1 (.tmp 34), none⟩, ⟨some 36, .len (.tmp 35), none⟩, ⟨some 37, .bin .lss (.tmp
    33) (.tmp 36), none⟩]) (.cond (.tmp 37) .skip (.exit 0))) (.seq (.block 1 (.seq (.region [⟨some 40, .fld 2 (.tmp 1), none⟩, ⟨some 41, .load false 1 (.tmp 40), none⟩, ⟨some 42,
    .mv (.tmp 5), none⟩, ⟨some 43, .idx 3 (.tmp 41) (.tmp 42), none⟩, ⟨some 44, .load true 3 (.tmp 43), none⟩, ⟨some 6, .alloc [(.int .i64 0), (.int .i64 0), (.int .i64 0)], none⟩,
    ⟨none, .store 3 (.tmp 6) (.tmp 44), none⟩]) (.seq (.region [⟨some 45, .fld 0 (.tmp 6), none⟩, ⟨some 46, .load false 1 (.tmp 45), none⟩, ⟨some 47, .call (.func 46) [(.tmp 46),
    (.const (.int .i64 1)), (.const (.int .i64 1000))], none⟩, ⟨some 48, .un .not (.tmp 47), none⟩, ⟨some 49, .mv (.tmp 48), none⟩, ⟨some 50, .fld 1 (.tmp 6), some (49, false)⟩,
    ⟨some 51, .load false 1 (.tmp 50), some (49, false)⟩, ⟨some 52, .call (.func 46) [(.tmp 51), (.const (.int .i64 (-1000))), (.const (.int .i64 1000))], some (49, false)⟩, ⟨some
    53, .un .not (.tmp 52), some (49, false)⟩, ⟨some 54, .pick (.tmp 49) (.const (.bool true)) (.tmp 53), none⟩, ⟨some 55, .mv (.tmp 54), none⟩, ⟨some 56, .fld 2 (.tmp 6), some (55,
    false)⟩, ⟨some 57, .load false 1 (.tmp 56), some (55, false)⟩, ⟨some 58, .call (.func 46) [(.tmp 57), (.const (.int .i64 0)), (.const (.int .i64 20))], some (55, false)⟩, ⟨some
    59, .un .not (.tmp 58), some (55, false)⟩, ⟨some 60, .pick (.tmp 55) (.const (.bool true)) (.tmp 59), none⟩]) (.cond (.tmp 60) (.seq (.region [⟨some 61, .mv (.tmp 5), none⟩,
    ⟨some 2, .mv (.tmp 61), none⟩, ⟨some 3, .mv (.const (.int .i64 2)), none⟩]) .ret) .skip)))) (.region [⟨some 38, .mv (.tmp 5), none⟩, ⟨some 39, .bin .add (.tmp 38) (.const (.int
    .i64 1)), none⟩, ⟨some 5, .mv (.tmp 39), none⟩])))))) (.seq (.region [⟨some 2, .mv (.const (.int .i64 0)), none⟩, ⟨some 3, .mv (.const (.int .i64 0)), none⟩]) .ret)))))))
theorem low104 : lowF Tryz.prog [] Tryz.f104 = some (62, lc104.strip, [.tmp 2, .tmp 3]) := by kernel_rfl
theorem fn104 : FnOk Tryz.prog 104 62 lc104 [.tmp 2, .tmp 3] := ⟨Tryz.call104, [], _, Tryz.func104, low104⟩
/-- moonpool/moonpoolref01.CheckBox -/
def lc105 : LCode :=
  (.seq (.region [⟨some 2, .box (.tmp 0), none⟩, ⟨some 4, .mv (.const (.int .i64 0)), none⟩, ⟨some 5, .mv (.const (.int .i64 0)), none⟩]) (.seq (.seq (.region [⟨some 7, .mv (.tmp
    1), none⟩, ⟨some 8, .len (.tmp 7), none⟩, ⟨some 9, .fld 2 (.tmp 2), none⟩, ⟨some 10, .load false 1 (.tmp 9), none⟩, ⟨some 11, .len (.tmp 10), none⟩, ⟨some 12, .bin .neq (.tmp 8)
    (.tmp 11), none⟩]) (.cond (.tmp 12) (.seq (.region [⟨some 4, .mv (.const (.int .i64 0)), none⟩, ⟨some 5, .mv (.const (.int .i64 10)), none⟩]) .ret) .skip)) (.seq (.seq (.region
    [⟨some 6, .mv (.const (.int .i64 0)), none⟩]) (.block 0 (.loop (.seq (.seq (.region [⟨some 13, .mv (.tmp 6), none⟩, ⟨some 14, .mv (.tmp 1), none⟩, ⟨some 15, .len (.tmp 14),
    none⟩, ⟨some 16, .bin .lss (.tmp 13) (.tmp 15), none⟩]) (.cond (.tmp 16) .skip (.exit 0))) (.seq (.block 1 (.seq (.seq (.region [⟨some 19, .mv (.tmp 1), none⟩, ⟨some 20, .mv
    (.tmp 6), none⟩, ⟨some 21, .idx 2 (.tmp 19) (.tmp 20), none⟩, ⟨some 22, .fld 0 (.tmp 21), none⟩, ⟨some 23, .load false 1 (.tmp 22), none⟩, ⟨some 24, .call (.func 195) [(.tmp
    23)], none⟩, ⟨some 25, .un .not (.tmp 24), none⟩, ⟨some 26, .mv (.tmp 25), none⟩, ⟨some 27, .mv (.tmp 1), some (26, false)⟩, ⟨some 28, .mv (.tmp 6), some (26, false)⟩, ⟨some 29,
    .idx 2 (.tmp 27) (.tmp 28), some (26, false)⟩, ⟨some 30, .fld 1 (.tmp 29), some (26, false)⟩, ⟨some 31, .load false 1 (.tmp 30), some (26, false)⟩, ⟨some 32, .call (.func 195)
    [(.tmp 31)], some (26, false)⟩, ⟨some 33, .un .not (.tmp 32), some (26, false)⟩, ⟨some 34, .pick (.tmp 26) (.const (.bool true)) (.tmp 33), none⟩]) (.cond (.tmp 34) (.seq
    (.region [⟨some 35, .mv (.tmp 6), none⟩, ⟨some 4, .mv (.tmp 35), none⟩, ⟨some 5, .mv (.const (.int .i64 2)), none⟩]) .ret) .skip)) (.seq (.regionD [⟨some 36, .mv (.tmp 1),
    none⟩, ⟨some 37, .mv (.tmp 6), none⟩, ⟨some 38, .idx 2 (.tmp 36) (.tmp 37), none⟩, ⟨some 39, .fld 0 (.tmp 38), none⟩, ⟨some 40, .load false 1 (.tmp 39), none⟩, ⟨some 41, .mv
    (.tmp 1), none⟩, ⟨some 42, .mv (.tmp 6), none⟩, ⟨some 43, .idx 2 (.tmp 41) (.tmp 42), none⟩, ⟨some 44, .fld 1 (.tmp 43), none⟩, ⟨some 45, .load false 1 (.tmp 44), none⟩, ⟨some
    46, .bin .gtr (.tmp 40) (.tmp 45), none⟩] [0, 0, 3, 7, 15, 0, 0, 96, 224, 480, 1023] [0, 1, 2, 3, 4, 5, 6, 7, 8, 9, 10]) (.cond (.tmp 46) (.seq (.region [⟨some 47, .mv (.tmp 6),
    none⟩, ⟨some 4, .mv (.tmp 47), none⟩, ⟨some 5, .mv (.const (.int .i64 9)), none⟩]) .ret) .skip)))) (.region [⟨some 17, .mv (.tmp 6), none⟩, ⟨some 18, .bin .add (.tmp 17) (.const
    (.int .i64 1)), none⟩, ⟨some 6, .mv (.tmp 18), none⟩])))))) (.seq (.region [⟨some 4, .mv (.const (.int .i64 0)), none⟩, ⟨some 5, .mv (.const (.int .i64 0)), none⟩]) .ret))))
theorem low105 : lowF Tryz.prog [] Tryz.f105 = some (48, lc105.strip, [.tmp 4, .tmp 5]) := by kernel_rfl
theorem fn105 : FnOk Tryz.prog 105 48 lc105 [.tmp 4, .tmp 5] := ⟨Tryz.call105, [], _, Tryz.func105, low105⟩
/-- moonpool/moonpoolbase.Decimal -/
def lc115 : LCode :=
  (.seq (.region [⟨some 2, .mv (.const (.string ⟨#[]⟩)), none⟩]) (.seq (.seq (.region [⟨some 6, .mv (.tmp 0), none⟩, ⟨some 7, .bin .eql (.tmp 6) (.const (.int .i64 0)), none⟩])
    (.cond (.tmp 7) (.seq (.region [⟨some 2, .mv (.const (.string ⟨#[48]⟩)), none⟩]) .ret) .skip)) (.seq (.region [⟨some 3, .mv (.const (.string ⟨#[]⟩)), none⟩, ⟨some 4, .mv (.const
    (.string ⟨#[]⟩)), none⟩]) (.seq (.seq (.region [⟨some 8, .mv (.tmp 0), none⟩, ⟨some 9, .bin .lss (.tmp 8) (.const (.int .i64 0)), none⟩]) (.cond (.tmp 9) (.region [⟨some 4, .mv
    (.const (.string ⟨#[45]⟩)), none⟩]) .skip)) (.seq (.block 0 (.loop (.seq (.seq (.region [⟨some 10, .mv (.tmp 0), none⟩, ⟨some 11, .bin .neq (.tmp 10) (.const (.int .i64 0)),
    none⟩]) (.cond (.tmp 11) .skip (.exit 0))) (.block 1 (.seq (.region [⟨some 12, .mv (.tmp 0), none⟩, ⟨some 13, .bin .rem (.tmp 12) (.const (.int .i64 10)), none⟩, ⟨some 5, .mv
    (.tmp 13), none⟩]) (.seq (.region [⟨some 14, .mv (.tmp 5), none⟩, ⟨some 15, .call (.func 54) [(.tmp 14)], none⟩, ⟨some 16, .bin .add (.const (.int .i64 48)) (.tmp 15), none⟩,
    ⟨some 17, .conv .u8 (.tmp 16), none⟩, ⟨some 18, .lit false 5 1 [(.tmp 17)], none⟩, ⟨some 19, .strB (.tmp 18), none⟩, ⟨some 20, .mv (.tmp 3), none⟩, ⟨some 21, .catS (.tmp 19)
    (.tmp 20), none⟩, ⟨some 3, .mv (.tmp 21), none⟩]) (.region [⟨some 22, .mv (.tmp 0), none⟩, ⟨some 23, .bin .quo (.tmp 22) (.const (.int .i64 10)), none⟩, ⟨some 0, .mv (.tmp 23),
    none⟩]))))))) (.seq (.region [⟨some 24, .mv (.tmp 4), none⟩, ⟨some 25, .mv (.tmp 3), none⟩, ⟨some 26, .catS (.tmp 24) (.tmp 25), none⟩, ⟨some 2, .mv (.tmp 26), none⟩])
    .ret))))))
theorem low115 : lowF Tryz.prog [] Tryz.f115 = some (27, lc115.strip, [.tmp 2]) := by kernel_rfl
theorem fn115 : FnOk Tryz.prog 115 27 lc115 [.tmp 2] := ⟨Tryz.call115, [], _, Tryz.func115, low115⟩
/-- moonpool/cable.openBox -/
def lc120 : LCode :=
  (.seq (.region [⟨some 2, .box (.tmp 0), none⟩, ⟨some 4, .alloc [(.int .i64 0), (.int .i64 0), (.slice none 0 0), (.slice none 0 0)], none⟩, ⟨some 5, .mv (.const (.int .i64 0)),
    none⟩]) (.seq (.region [⟨some 9, .load true 3 (.tmp 2), none⟩, ⟨some 10, .mv (.tmp 1), none⟩, ⟨some 11, .call (.func 207) [(.tmp 9), (.tmp 10)], none⟩, ⟨some 8, .mv (.tmp 11),
    none⟩, ⟨some 12, .ext (.tmp 8) 0, none⟩, ⟨some 13, .ext (.tmp 8) 1, none⟩, ⟨some 6, .mv (.tmp 12), none⟩, ⟨some 7, .mv (.tmp 13), none⟩]) (.seq (.region [⟨some 14, .load true 3
    (.tmp 2), none⟩, ⟨some 15, .mv (.tmp 1), none⟩, ⟨some 16, .build [(.int .i64 0), (.int .i64 0), (.slice none 0 0), (.slice none 0 0)] [(0, 3, (.tmp 14)), (3, 1, (.tmp 15))],
    none⟩, ⟨some 17, .mv (.tmp 7), none⟩, ⟨none, .store 4 (.tmp 4) (.tmp 16), none⟩, ⟨some 5, .mv (.tmp 17), none⟩]) .ret)))
theorem low120 : lowF Tryz.prog [] Tryz.f120 = some (18, lc120.strip, [.cell 4 true 4, .tmp 5]) := by kernel_rfl
theorem fn120 : FnOk Tryz.prog 120 18 lc120 [.cell 4 true 4, .tmp 5] := ⟨Tryz.call120, [], _, Tryz.func120, low120⟩
/-- (moonpool/cable.line).pulls -/
def lc121 : LCode :=
  (.seq (.region [⟨some 1, .box (.tmp 0), none⟩, ⟨some 2, .mv (.const .nilFunc), none⟩]) (.seq (.region [⟨some 3, .mkfn 208 [(.tmp 1)], none⟩, ⟨some 2, .mv (.tmp 3), none⟩]) .ret))
theorem low121 : lowF Tryz.prog [] Tryz.f121 = some (4, lc121.strip, [.tmp 2]) := by kernel_rfl
theorem fn121 : FnOk Tryz.prog 121 4 lc121 [.tmp 2] := ⟨Tryz.call121, [], _, Tryz.func121, low121⟩
/-- moonpool/cable.open -/
def lc123 : LCode :=
  (.seq (.region [⟨some 2, .box (.tmp 0), none⟩, ⟨some 4, .alloc [(.int .i64 0), (.int .i64 0), (.slice none 0 0), (.slice none 0 0)], none⟩, ⟨some 5, .mv (.const (.int .i64 0)),
    none⟩]) (.seq (.region [⟨some 12, .load true 3 (.tmp 2), none⟩, ⟨some 13, .call (.func 96) [(.tmp 12)], none⟩, ⟨some 11, .mv (.tmp 13), none⟩, ⟨some 14, .ext (.tmp 11) 0, none⟩,
    ⟨some 15, .ext (.tmp 11) 1, none⟩, ⟨some 6, .mv (.tmp 14), none⟩, ⟨some 7, .mv (.tmp 15), none⟩]) (.seq (.seq (.region [⟨some 16, .mv (.tmp 7), none⟩, ⟨some 17, .mv (.tmp 1),
    none⟩, ⟨some 18, .len (.tmp 17), none⟩, ⟨some 19, .fld 2 (.tmp 2), none⟩, ⟨some 20, .load false 1 (.tmp 19), none⟩, ⟨some 21, .len (.tmp 20), none⟩, ⟨some 22, .bin .eql (.tmp
    18) (.tmp 21), none⟩, ⟨some 23, .call (.func 125) [(.tmp 22), (.const (.int .i64 10))], none⟩, ⟨some 24, .lit false 34 1 [(.tmp 16), (.tmp 23)], none⟩, ⟨some 25, .call (.func
    124) [(.tmp 24)], none⟩, ⟨some 7, .mv (.tmp 25), none⟩]) (.seq (.region [⟨some 26, .mv (.tmp 7), none⟩, ⟨some 27, .bin .neq (.tmp 26) (.const (.int .i64 0)), none⟩]) (.cond
    (.tmp 27) (.seq (.region [⟨some 28, .build [(.int .i64 0), (.int .i64 0), (.slice none 0 0), (.slice none 0 0)] [], none⟩, ⟨some 29, .mv (.tmp 7), none⟩, ⟨none, .store 4 (.tmp
    4) (.tmp 28), none⟩, ⟨some 5, .mv (.tmp 29), none⟩]) .ret) .skip))) (.seq (.region [⟨some 31, .mv (.tmp 1), none⟩, ⟨some 32, .call (.func 126) [(.tmp 31), (.func 209)], none⟩,
    ⟨some 30, .mv (.tmp 32), none⟩, ⟨some 33, .ext (.tmp 30) 0, none⟩, ⟨some 34, .ext (.tmp 30) 1, none⟩, ⟨some 7, .mv (.tmp 34), none⟩]) (.seq (.region [⟨some 35, .load true 3
    (.tmp 2), none⟩, ⟨some 36, .build [(.int .i64 0), (.int .i64 0), (.slice none 0 0), (.slice none 0 0)] [(0, 3, (.tmp 35))], none⟩, ⟨some 8, .alloc [(.int .i64 0), (.int .i64 0),
    (.slice none 0 0), (.slice none 0 0)], none⟩, ⟨none, .store 4 (.tmp 8) (.tmp 36), none⟩]) (.seq (.seq (.region [⟨some 37, .mv (.tmp 1), none⟩, ⟨some 38, .len (.tmp 37), none⟩,
    ⟨some 39, .mv (.const (.int .i64 0)), none⟩]) (.block 0 (.loop (.seq (.region [⟨some 40, .bin .lss (.tmp 39) (.tmp 38), none⟩]) (.seq (.cond (.tmp 40) .skip (.exit 0)) (.seq
    (.block 1 (.seq (.region [⟨some 41, .idx 1 (.tmp 37) (.tmp 39), none⟩, ⟨some 42, .load false 1 (.tmp 41), none⟩, ⟨some 10, .mv (.tmp 42), none⟩]) (.region [⟨some 43, .fld 3
    (.tmp 8), none⟩, ⟨some 44, .load false 1 (.tmp 43), none⟩, ⟨some 45, .mv (.tmp 10), none⟩, ⟨some 46, .mv (.tmp 10), none⟩, ⟨some 47, .build [(.int .i64 0), (.int .i64 0)] [(0,
    1, (.tmp 45)), (1, 1, (.tmp 46))], none⟩, ⟨some 48, .lit false 82 2 [(.tmp 47)], none⟩, ⟨some 49, .append true 82 2 16 (.tmp 44) (.tmp 48), none⟩, ⟨some 50, .fld 3 (.tmp 8),
    none⟩, ⟨none, .store 1 (.tmp 50) (.tmp 49), none⟩]))) (.region [⟨some 51, .bin .add (.tmp 39) (.const (.int .i64 1)), none⟩, ⟨some 39, .mv (.tmp 51), none⟩]))))))) (.seq
    (.region [⟨some 52, .load true 4 (.tmp 8), none⟩, ⟨some 53, .mv (.tmp 7), none⟩, ⟨none, .store 4 (.tmp 4) (.tmp 52), none⟩, ⟨some 5, .mv (.tmp 53), none⟩]) .ret)))))))
theorem low123 : lowF Tryz.prog [49] Tryz.f123 = some (54, lc123.strip, [.cell 4 true 4, .tmp 5]) := by kernel_rfl
theorem fn123 : FnOk Tryz.prog 123 54 lc123 [.cell 4 true 4, .tmp 5] := ⟨Tryz.call123, [49], _, Tryz.func123, low123⟩
/-- moonpool/cable.first -/
def lc124 : LCode :=
  (.seq (.region [⟨some 2, .mv (.const (.int .i64 0)), none⟩]) (.seq (.seq (.region [⟨some 5, .mv (.tmp 0), none⟩, ⟨some 6, .len (.tmp 5), none⟩, ⟨some 7, .mv (.const (.int .i64
    0)), none⟩]) (.block 0 (.loop (.seq (.region [⟨some 8, .bin .lss (.tmp 7) (.tmp 6), none⟩]) (.seq (.cond (.tmp 8) .skip (.exit 0)) (.seq (.block 1 (.seq (.region [⟨some 9, .idx
    1 (.tmp 5) (.tmp 7), none⟩, ⟨some 10, .load false 1 (.tmp 9), none⟩, ⟨some 4, .mv (.tmp 10), none⟩]) (.seq (.region [⟨some 11, .mv (.tmp 4), none⟩, ⟨some 12, .bin .neq (.tmp 11)
    (.const (.int .i64 0)), none⟩]) (.cond (.tmp 12) (.seq (.region [⟨some 13, .mv (.tmp 4), none⟩, ⟨some 2, .mv (.tmp 13), none⟩]) .ret) .skip)))) (.region [⟨some 14, .bin .add
    (.tmp 7) (.const (.int .i64 1)), none⟩, ⟨some 7, .mv (.tmp 14), none⟩]))))))) (.seq (.region [⟨some 2, .mv (.const (.int .i64 0)), none⟩]) .ret)))
theorem low124 : lowF Tryz.prog [] Tryz.f124 = some (15, lc124.strip, [.tmp 2]) := by kernel_rfl
theorem fn124 : FnOk Tryz.prog 124 15 lc124 [.tmp 2] := ⟨Tryz.call124, [], _, Tryz.func124, low124⟩
/-- moonpool/cable.unless -/
def lc125 : LCode :=
  (.seq (.region [⟨some 4, .mv (.const (.int .i64 0)), none⟩]) (.seq (.seq (.region [⟨some 5, .mv (.tmp 0), none⟩]) (.cond (.tmp 5) (.seq (.region [⟨some 4, .mv (.const (.int .i64
    0)), none⟩]) .ret) .skip)) (.seq (.region [⟨some 6, .mv (.tmp 1), none⟩, ⟨some 4, .mv (.tmp 6), none⟩]) .ret)))
theorem low125 : lowF Tryz.prog [] Tryz.f125 = some (7, lc125.strip, [.tmp 4]) := by kernel_rfl
theorem fn125 : FnOk Tryz.prog 125 7 lc125 [.tmp 4] := ⟨Tryz.call125, [], _, Tryz.func125, low125⟩
/-- moonpool/cable.each[int] -/
def lc126 : LCode :=
  (.seq (.region [⟨some 4, .mv (.const (.int .i64 0)), none⟩, ⟨some 5, .mv (.const (.int .i64 0)), none⟩]) (.seq (.seq (.region [⟨some 9, .mv (.tmp 0), none⟩, ⟨some 10, .len (.tmp
    9), none⟩, ⟨some 11, .mv (.const (.int .i64 0)), none⟩]) (.block 0 (.loop (.seq (.region [⟨some 12, .bin .lss (.tmp 11) (.tmp 10), none⟩]) (.seq (.cond (.tmp 12) .skip (.exit
    0)) (.seq (.block 1 (.seq (.region [⟨some 13, .mv (.tmp 11), none⟩, ⟨some 14, .idx 1 (.tmp 9) (.tmp 11), none⟩, ⟨some 15, .load false 1 (.tmp 14), none⟩, ⟨some 6, .mv (.tmp 13),
    none⟩, ⟨some 7, .mv (.tmp 15), none⟩]) (.seq (.region [⟨some 16, .mv (.tmp 1), none⟩, ⟨some 17, .mv (.tmp 6), none⟩, ⟨some 18, .mv (.tmp 7), none⟩, ⟨some 19, .call (.tmp 16)
    [(.tmp 17), (.tmp 18)], none⟩, ⟨some 8, .mv (.tmp 19), none⟩]) (.seq (.region [⟨some 20, .mv (.tmp 8), none⟩, ⟨some 21, .bin .neq (.tmp 20) (.const (.int .i64 0)), none⟩])
    (.cond (.tmp 21) (.seq (.region [⟨some 22, .mv (.tmp 6), none⟩, ⟨some 23, .mv (.tmp 8), none⟩, ⟨some 4, .mv (.tmp 22), none⟩, ⟨some 5, .mv (.tmp 23), none⟩]) .ret) .skip)))))
    (.region [⟨some 24, .bin .add (.tmp 11) (.const (.int .i64 1)), none⟩, ⟨some 11, .mv (.tmp 24), none⟩]))))))) (.seq (.region [⟨some 4, .mv (.const (.int .i64 0)), none⟩, ⟨some
    5, .mv (.const (.int .i64 0)), none⟩]) .ret)))
theorem low126 : lowF Tryz.prog [] Tryz.f126 = some (25, lc126.strip, [.tmp 4, .tmp 5]) := by kernel_rfl
theorem fn126 : FnOk Tryz.prog 126 25 lc126 [.tmp 4, .tmp 5] := ⟨Tryz.call126, [], _, Tryz.func126, low126⟩
/-- moonpool/cable.within -/
def lc128 : LCode :=
  (.seq (.region [⟨some 6, .mv (.const (.bool false)), none⟩]) (.seq (.region [⟨some 7, .mv (.tmp 1), none⟩, ⟨some 8, .mv (.tmp 0), none⟩, ⟨some 9, .bin .leq (.tmp 7) (.tmp 8),
    none⟩, ⟨some 10, .mv (.tmp 9), none⟩, ⟨some 11, .mv (.tmp 0), some (10, true)⟩, ⟨some 12, .mv (.tmp 2), some (10, true)⟩, ⟨some 13, .bin .leq (.tmp 11) (.tmp 12), some (10,
    true)⟩, ⟨some 14, .pick (.tmp 10) (.tmp 13) (.const (.bool false)), none⟩, ⟨some 6, .mv (.tmp 14), none⟩]) .ret))
theorem low128 : lowF Tryz.prog [] Tryz.f128 = some (15, lc128.strip, [.tmp 6]) := by kernel_rfl
theorem fn128 : FnOk Tryz.prog 128 15 lc128 [.tmp 6] := ⟨Tryz.call128, [], _, Tryz.func128, low128⟩
def ra129 : LCode :=
  (.region [⟨some 5, .alloc [(.int .i64 0), (.int .i64 0), (.int .i64 0), (.int .i64 0)], none⟩, ⟨none, .store 4 (.tmp 5) (.tmp 9), none⟩])
def rb129 : LCode :=
  (.block 1 (.region [⟨some 10, .load false 1 (.tmp 3), none⟩, ⟨some 11, .fld 0 (.tmp 5), none⟩, ⟨some 12, .fld 0 (.tmp 11), none⟩, ⟨some 13, .load false 1 (.tmp 12), none⟩, ⟨some
    14, .fld 2 (.tmp 5), none⟩, ⟨some 15, .load false 1 (.tmp 14), none⟩, ⟨some 16, .build [(.int .i64 0), (.int .i64 0)] [(0, 1, (.tmp 13)), (1, 1, (.tmp 15))], none⟩, ⟨some 17,
    .lit false 23 2 [(.tmp 16)], none⟩, ⟨some 18, .append true 23 2 16 (.tmp 10) (.tmp 17), none⟩, ⟨none, .store 1 (.tmp 3) (.tmp 18), none⟩]))
/-- (moonpool/cable.line).tensions -/
def lc129 : LCode :=
  (.seq (.region [⟨some 1, .box (.tmp 0), none⟩, ⟨some 2, .mv (.const (.slice none 0 0)), none⟩]) (.seq (.region [⟨some 3, .alloc [(.slice none 0 0)], none⟩]) (.seq (.seq (.region
    [⟨some 6, .load true 4 (.tmp 1), none⟩, ⟨some 7, .call (.func 121) [(.tmp 6)], none⟩]) (.block 0 (.rangeFunc (.tmp 7) [8, 9] ra129 rb129))) (.seq (.region [⟨some 19, .load false
    1 (.tmp 3), none⟩, ⟨some 2, .mv (.tmp 19), none⟩]) .ret))))
theorem low129 : lowF Tryz.prog [18] Tryz.f129 = some (20, lc129.strip, [.tmp 2]) := by kernel_rfl
theorem fn129 : FnOk Tryz.prog 129 20 lc129 [.tmp 2] := ⟨Tryz.call129, [18], _, Tryz.func129, low129⟩
/-- moonpool/cable.square -/
def lc130 : LCode :=
  (.seq (.region [⟨some 1, .box (.tmp 0), none⟩, ⟨some 2, .mv (.const (.int .i64 0)), none⟩]) (.seq (.region [⟨some 3, .fld 0 (.tmp 1), none⟩, ⟨some 4, .load false 1 (.tmp 3),
    none⟩, ⟨some 5, .fld 0 (.tmp 1), none⟩, ⟨some 6, .load false 1 (.tmp 5), none⟩, ⟨some 7, .bin .mul (.tmp 4) (.tmp 6), none⟩, ⟨some 8, .fld 1 (.tmp 1), none⟩, ⟨some 9, .load
    false 1 (.tmp 8), none⟩, ⟨some 10, .fld 1 (.tmp 1), none⟩, ⟨some 11, .load false 1 (.tmp 10), none⟩, ⟨some 12, .bin .mul (.tmp 9) (.tmp 11), none⟩, ⟨some 13, .bin .add (.tmp 7)
    (.tmp 12), none⟩, ⟨some 2, .mv (.tmp 13), none⟩]) .ret))
theorem low130 : lowF Tryz.prog [] Tryz.f130 = some (14, lc130.strip, [.tmp 2]) := by kernel_rfl
theorem fn130 : FnOk Tryz.prog 130 14 lc130 [.tmp 2] := ⟨Tryz.call130, [], _, Tryz.func130, low130⟩
/-- moonpool/cable.tight -/
def lc136 : LCode :=
  (.seq (.region [⟨some 2, .box (.tmp 0), none⟩, ⟨some 4, .alloc [(.int .i64 0), (.int .i64 0), (.slice none 0 0), (.slice none 0 0)], none⟩, ⟨some 5, .mv (.const (.int .i64 0)),
    none⟩]) (.seq (.seq (.region [⟨some 6, .mv (.tmp 1), none⟩, ⟨some 7, .bin .eql (.tmp 6) (.const (.int .i64 0)), none⟩]) (.cond (.tmp 7) (.region [⟨some 8, .load true 4 (.tmp 2),
    none⟩, ⟨some 9, .call (.func 214) [(.tmp 8)], none⟩, ⟨some 1, .mv (.tmp 9), none⟩]) .skip)) (.seq (.region [⟨some 10, .load true 4 (.tmp 2), none⟩, ⟨some 11, .mv (.tmp 1),
    none⟩, ⟨none, .store 4 (.tmp 4) (.tmp 10), none⟩, ⟨some 5, .mv (.tmp 11), none⟩]) .ret)))
theorem low136 : lowF Tryz.prog [] Tryz.f136 = some (12, lc136.strip, [.cell 4 true 4, .tmp 5]) := by kernel_rfl
theorem fn136 : FnOk Tryz.prog 136 12 lc136 [.cell 4 true 4, .tmp 5] := ⟨Tryz.call136, [], _, Tryz.func136, low136⟩
end Go.Pw

set_option linter.unusedVariables false
set_option maxHeartbeats 2000000
set_option maxRecDepth 100000
namespace Go.Pw
open Go Go.Proofs
def ra176 : LCode :=
  (.region [⟨some 5, .alloc [(.int .i64 0), (.int .i64 0), (.int .i64 0), (.int .i64 0)], none⟩, ⟨none, .store 4 (.tmp 5) (.tmp 9), none⟩])
def rb176 : LCode :=
  (.block 1 (.seq (.regionD [⟨some 10, .fld 0 (.tmp 3), none⟩, ⟨some 11, .load false 1 (.tmp 10), none⟩, ⟨some 12, .fld 3 (.tmp 5), none⟩, ⟨some 13, .load false 1 (.tmp 12), none⟩,
    ⟨some 14, .fld 0 (.tmp 5), none⟩, ⟨some 15, .fld 0 (.tmp 14), none⟩, ⟨some 16, .load false 1 (.tmp 15), none⟩, ⟨some 17, .bin .mul (.tmp 13) (.tmp 16), none⟩, ⟨some 18, .fld 2
    (.tmp 5), none⟩, ⟨some 19, .load false 1 (.tmp 18), none⟩, ⟨some 20, .call (.func 236) [(.tmp 17), (.tmp 19)], none⟩, ⟨some 21, .bin .add (.tmp 11) (.tmp 20), none⟩, ⟨some 22,
    .fld 0 (.tmp 3), none⟩, ⟨none, .store 1 (.tmp 22) (.tmp 21), none⟩] [0, 1, 0, 4, 0, 16, 48, 124, 0, 256, 1020, 2047, 4095, 8191] [0, 1, 2, 3, 4, 5, 6, 7, 8, 9, 10, 11, 12, 13])
    (.regionD [⟨some 23, .fld 1 (.tmp 3), none⟩, ⟨some 24, .load false 1 (.tmp 23), none⟩, ⟨some 25, .fld 3 (.tmp 5), none⟩, ⟨some 26, .load false 1 (.tmp 25), none⟩, ⟨some 27, .fld
    0 (.tmp 5), none⟩, ⟨some 28, .fld 1 (.tmp 27), none⟩, ⟨some 29, .load false 1 (.tmp 28), none⟩, ⟨some 30, .bin .mul (.tmp 26) (.tmp 29), none⟩, ⟨some 31, .fld 2 (.tmp 5), none⟩,
    ⟨some 32, .load false 1 (.tmp 31), none⟩, ⟨some 33, .call (.func 237) [(.tmp 30), (.tmp 32)], none⟩, ⟨some 34, .bin .add (.tmp 24) (.tmp 33), none⟩, ⟨some 35, .fld 1 (.tmp 3),
    none⟩, ⟨none, .store 1 (.tmp 35) (.tmp 34), none⟩] [0, 1, 0, 4, 0, 16, 48, 124, 0, 256, 1020, 2047, 4095, 8191] [0, 1, 2, 3, 4, 5, 6, 7, 8, 9, 10, 11, 12, 13])))
/-- (moonpool/cable.line).layback -/
def lc176 : LCode :=
  (.seq (.region [⟨some 1, .box (.tmp 0), none⟩, ⟨some 2, .alloc [(.int .i64 0), (.int .i64 0)], none⟩]) (.seq (.region [⟨some 3, .alloc [(.int .i64 0), (.int .i64 0)], none⟩])
    (.seq (.seq (.region [⟨some 6, .load true 4 (.tmp 1), none⟩, ⟨some 7, .call (.func 121) [(.tmp 6)], none⟩]) (.block 0 (.rangeFunc (.tmp 7) [8, 9] ra176 rb176))) (.seq (.region
    [⟨some 36, .load true 2 (.tmp 3), none⟩, ⟨none, .store 2 (.tmp 2) (.tmp 36), none⟩]) .ret))))
theorem low176 : lowF Tryz.prog [] Tryz.f176 = some (37, lc176.strip, [.cell 2 true 2]) := by kernel_rfl
theorem fn176 : FnOk Tryz.prog 176 37 lc176 [.cell 2 true 2] := ⟨Tryz.call176, [], _, Tryz.func176, low176⟩
/-- moonpool/cable.BendsOf -/
def lc177 : LCode :=
  (.seq (.region [⟨some 2, .box (.tmp 0), none⟩, ⟨some 4, .mv (.const (.slice none 0 0)), none⟩, ⟨some 5, .mv (.const (.int .i64 0)), none⟩]) (.seq (.region [⟨some 15, .load true 3
    (.tmp 2), none⟩, ⟨some 16, .mv (.tmp 1), none⟩, ⟨some 17, .call (.func 123) [(.tmp 15), (.tmp 16)], none⟩, ⟨some 18, .ext (.tmp 17) 0, none⟩, ⟨some 19, .ext (.tmp 17) 1, none⟩,
    ⟨some 20, .call (.func 136) [(.tmp 18), (.tmp 19)], none⟩, ⟨some 14, .mv (.tmp 20), none⟩, ⟨some 21, .ext (.tmp 14) 0, none⟩, ⟨some 22, .ext (.tmp 14) 1, none⟩, ⟨some 6, .alloc
    [(.int .i64 0), (.int .i64 0), (.slice none 0 0), (.slice none 0 0)], none⟩, ⟨none, .store 4 (.tmp 6) (.tmp 21), none⟩, ⟨some 7, .mv (.tmp 22), none⟩]) (.seq (.seq (.region
    [⟨some 23, .mv (.tmp 7), none⟩, ⟨some 24, .bin .neq (.tmp 23) (.const (.int .i64 0)), none⟩]) (.cond (.tmp 24) (.seq (.region [⟨some 25, .mv (.tmp 7), none⟩, ⟨some 4, .mv
    (.const (.slice none 0 0)), none⟩, ⟨some 5, .mv (.tmp 25), none⟩]) .ret) .skip)) (.seq (.region [⟨some 8, .mv (.const (.slice none 0 0)), none⟩]) (.seq (.region [⟨some 26, .load
    true 4 (.tmp 6), none⟩, ⟨some 27, .call (.func 129) [(.tmp 26)], none⟩, ⟨some 9, .mv (.tmp 27), none⟩]) (.seq (.seq (.region [⟨some 28, .mv (.tmp 9), none⟩, ⟨some 29, .slc 2
    (.tmp 28) (some (.const (.int .i64 1))) none, none⟩, ⟨some 30, .len (.tmp 29), none⟩, ⟨some 31, .mv (.const (.int .i64 0)), none⟩]) (.block 0 (.loop (.seq (.region [⟨some 32,
    .bin .lss (.tmp 31) (.tmp 30), none⟩]) (.seq (.cond (.tmp 32) .skip (.exit 0)) (.seq (.block 1 (.seq (.region [⟨some 33, .mv (.tmp 31), none⟩, ⟨some 34, .idx 2 (.tmp 29) (.tmp
    31), none⟩, ⟨some 35, .load true 2 (.tmp 34), none⟩, ⟨some 11, .alloc [(.int .i64 0), (.int .i64 0)], none⟩, ⟨some 10, .mv (.tmp 33), none⟩, ⟨none, .store 2 (.tmp 11) (.tmp 35),
    none⟩]) (.seq (.region [⟨some 36, .mv (.tmp 9), none⟩, ⟨some 37, .mv (.tmp 10), none⟩, ⟨some 38, .idx 2 (.tmp 36) (.tmp 37), none⟩, ⟨some 39, .load true 2 (.tmp 38), none⟩,
    ⟨some 12, .alloc [(.int .i64 0), (.int .i64 0)], none⟩, ⟨none, .store 2 (.tmp 12) (.tmp 39), none⟩]) (.seq (.region [⟨some 40, .fld 0 (.tmp 12), none⟩, ⟨some 41, .load false 1
    (.tmp 40), none⟩, ⟨some 42, .fld 1 (.tmp 11), none⟩, ⟨some 43, .load false 1 (.tmp 42), none⟩, ⟨some 44, .bin .mul (.tmp 41) (.tmp 43), none⟩, ⟨some 45, .fld 0 (.tmp 11), none⟩,
    ⟨some 46, .load false 1 (.tmp 45), none⟩, ⟨some 47, .fld 1 (.tmp 12), none⟩, ⟨some 48, .load false 1 (.tmp 47), none⟩, ⟨some 49, .bin .mul (.tmp 46) (.tmp 48), none⟩, ⟨some 50,
    .bin .sub (.tmp 44) (.tmp 49), none⟩, ⟨some 13, .mv (.tmp 50), none⟩]) (.regionD [⟨some 51, .mv (.tmp 8), none⟩, ⟨some 52, .mv (.tmp 13), none⟩, ⟨some 53, .mv (.tmp 13), none⟩,
    ⟨some 54, .bin .mul (.tmp 52) (.tmp 53), none⟩, ⟨some 55, .load true 2 (.tmp 11), none⟩, ⟨some 56, .call (.func 130) [(.tmp 55)], none⟩, ⟨some 57, .load true 2 (.tmp 12), none⟩,
    ⟨some 58, .call (.func 130) [(.tmp 57)], none⟩, ⟨some 59, .bin .mul (.tmp 56) (.tmp 58), none⟩, ⟨some 60, .call (.func 238) [(.tmp 54), (.tmp 59)], none⟩, ⟨some 61, .lit false
    104 2 [(.tmp 60)], none⟩, ⟨some 62, .append true 104 2 16 (.tmp 51) (.tmp 61), none⟩, ⟨some 8, .mv (.tmp 62), none⟩] [0, 0, 0, 6, 0, 16, 0, 112, 240, 510, 1022, 2047, 4095] [0,
    1, 2, 3, 4, 5, 6, 7, 8, 9, 10, 11, 12]))))) (.region [⟨some 63, .bin .add (.tmp 31) (.const (.int .i64 1)), none⟩, ⟨some 31, .mv (.tmp 63), none⟩]))))))) (.seq (.region [⟨some
    64, .mv (.tmp 8), none⟩, ⟨some 4, .mv (.tmp 64), none⟩, ⟨some 5, .mv (.const (.int .i64 0)), none⟩]) .ret)))))))
theorem low177 : lowF Tryz.prog [62] Tryz.f177 = some (65, lc177.strip, [.tmp 4, .tmp 5]) := by kernel_rfl
theorem fn177 : FnOk Tryz.prog 177 65 lc177 [.tmp 4, .tmp 5] := ⟨Tryz.call177, [62], _, Tryz.func177, low177⟩
/-- moonpool/cable.isLess -/
def lc178 : LCode :=
  (.seq (.region [⟨some 2, .box (.tmp 0), none⟩, ⟨some 3, .box (.tmp 1), none⟩, ⟨some 4, .mv (.const (.bool false)), none⟩]) (.seq (.region [⟨some 10, .fld 0 (.tmp 2), none⟩, ⟨some
    11, .load false 1 (.tmp 10), none⟩, ⟨some 12, .conv .u64 (.tmp 11), none⟩, ⟨some 13, .fld 1 (.tmp 3), none⟩, ⟨some 14, .load false 1 (.tmp 13), none⟩, ⟨some 15, .conv .u64 (.tmp
    14), none⟩, ⟨some 16, .call (.func 239) [(.tmp 12), (.tmp 15)], none⟩, ⟨some 9, .mv (.tmp 16), none⟩, ⟨some 17, .ext (.tmp 9) 0, none⟩, ⟨some 18, .ext (.tmp 9) 1, none⟩, ⟨some
    5, .mv (.tmp 17), none⟩, ⟨some 6, .mv (.tmp 18), none⟩]) (.seq (.region [⟨some 20, .fld 0 (.tmp 3), none⟩, ⟨some 21, .load false 1 (.tmp 20), none⟩, ⟨some 22, .conv .u64 (.tmp
    21), none⟩, ⟨some 23, .fld 1 (.tmp 2), none⟩, ⟨some 24, .load false 1 (.tmp 23), none⟩, ⟨some 25, .conv .u64 (.tmp 24), none⟩, ⟨some 26, .call (.func 239) [(.tmp 22), (.tmp
    25)], none⟩, ⟨some 19, .mv (.tmp 26), none⟩, ⟨some 27, .ext (.tmp 19) 0, none⟩, ⟨some 28, .ext (.tmp 19) 1, none⟩, ⟨some 7, .mv (.tmp 27), none⟩, ⟨some 8, .mv (.tmp 28), none⟩])
    (.seq (.region [⟨some 29, .mv (.tmp 5), none⟩, ⟨some 30, .mv (.tmp 7), none⟩, ⟨some 31, .bin .lss (.tmp 29) (.tmp 30), none⟩, ⟨some 32, .mv (.tmp 31), none⟩, ⟨some 33, .mv (.tmp
    5), some (32, false)⟩, ⟨some 34, .mv (.tmp 7), some (32, false)⟩, ⟨some 35, .bin .eql (.tmp 33) (.tmp 34), some (32, false)⟩, ⟨some 36, .mv (.tmp 35), some (32, false)⟩, ⟨some
    37, .mv (.tmp 6), some (36, true)⟩, ⟨some 38, .mv (.tmp 8), some (36, true)⟩, ⟨some 39, .bin .lss (.tmp 37) (.tmp 38), some (36, true)⟩, ⟨some 40, .pick (.tmp 36) (.tmp 39)
    (.const (.bool false)), some (32, false)⟩, ⟨some 41, .pick (.tmp 32) (.const (.bool true)) (.tmp 40), none⟩, ⟨some 4, .mv (.tmp 41), none⟩]) .ret))))
theorem low178 : lowF Tryz.prog [] Tryz.f178 = some (42, lc178.strip, [.tmp 4]) := by kernel_rfl
theorem fn178 : FnOk Tryz.prog 178 42 lc178 [.tmp 4] := ⟨Tryz.call178, [], _, Tryz.func178, low178⟩
/-- moonpool/cable.pathErr -/
def lc179 : LCode :=
  (.seq (.region [⟨some 2, .mv (.const (.int .i64 0)), none⟩]) (.seq (.region [⟨some 4, .mv (.tmp 0), none⟩, ⟨some 5, .call (.func 240) [(.tmp 4), (.func 241)], none⟩, ⟨some 3, .mv
    (.tmp 5), none⟩]) (.seq (.region [⟨some 6, .mv (.tmp 0), none⟩, ⟨some 7, .len (.tmp 6), none⟩, ⟨some 8, .bin .gtr (.tmp 7) (.const (.int .i64 0)), none⟩, ⟨some 9, .call (.func
    125) [(.tmp 8), (.const (.int .i64 10))], none⟩, ⟨some 10, .mv (.tmp 0), none⟩, ⟨some 11, .len (.tmp 10), none⟩, ⟨some 12, .bin .leq (.tmp 11) (.const (.int .i64 30)), none⟩,
    ⟨some 13, .call (.func 125) [(.tmp 12), (.const (.int .i64 8))], none⟩, ⟨some 14, .mv (.tmp 3), none⟩, ⟨some 15, .un .not (.tmp 14), none⟩, ⟨some 16, .call (.func 125) [(.tmp
    15), (.const (.int .i64 2))], none⟩, ⟨some 17, .lit false 34 1 [(.tmp 9), (.tmp 13), (.tmp 16)], none⟩, ⟨some 18, .call (.func 124) [(.tmp 17)], none⟩, ⟨some 2, .mv (.tmp 18),
    none⟩]) .ret)))
theorem low179 : lowF Tryz.prog [] Tryz.f179 = some (19, lc179.strip, [.tmp 2]) := by kernel_rfl
theorem fn179 : FnOk Tryz.prog 179 19 lc179 [.tmp 2] := ⟨Tryz.call179, [], _, Tryz.func179, low179⟩
/-- moonpool/cable.wound -/
def lc180 : LCode :=
  (.seq (.region [⟨some 3, .box (.tmp 1), none⟩, ⟨some 4, .mv (.const (.int .i64 0)), none⟩, ⟨some 5, .mv (.const (.int .i64 0)), none⟩]) (.seq (.seq (.region [⟨some 8, .load true 2
    (.tmp 3), none⟩, ⟨some 9, .call (.func 242) [(.tmp 8)], none⟩, ⟨some 10, .un .not (.tmp 9), none⟩]) (.cond (.tmp 10) (.seq (.region [⟨some 4, .mv (.const (.int .i64 0)), none⟩,
    ⟨some 5, .mv (.const (.int .i64 2)), none⟩]) .ret) .skip)) (.seq (.region [⟨some 12, .mv (.tmp 0), none⟩, ⟨some 13, .load true 2 (.tmp 3), none⟩, ⟨some 14, .call (.func 243)
    [(.tmp 12), (.tmp 13)], none⟩, ⟨some 11, .mv (.tmp 14), none⟩, ⟨some 15, .ext (.tmp 11) 0, none⟩, ⟨some 16, .ext (.tmp 11) 1, none⟩, ⟨some 6, .mv (.tmp 15), none⟩, ⟨some 7, .mv
    (.tmp 16), none⟩]) (.seq (.region [⟨some 17, .mv (.tmp 6), none⟩, ⟨some 18, .mv (.tmp 7), none⟩, ⟨some 19, .call (.func 125) [(.tmp 18), (.const (.int .i64 13))], none⟩, ⟨some
    4, .mv (.tmp 17), none⟩, ⟨some 5, .mv (.tmp 19), none⟩]) .ret))))
theorem low180 : lowF Tryz.prog [] Tryz.f180 = some (20, lc180.strip, [.tmp 4, .tmp 5]) := by kernel_rfl
theorem fn180 : FnOk Tryz.prog 180 20 lc180 [.tmp 4, .tmp 5] := ⟨Tryz.call180, [], _, Tryz.func180, low180⟩
end Go.Pw

set_option linter.unusedVariables false
set_option maxHeartbeats 2000000
set_option maxRecDepth 100000
namespace Go.Pw
open Go Go.Proofs
/-- slices.Contains[[]int,int] -/
def lc186 : LCode :=
  (.seq (.region [⟨some 4, .mv (.const (.bool false)), none⟩]) (.seq (.region [⟨some 5, .mv (.tmp 0), none⟩, ⟨some 6, .mv (.tmp 1), none⟩, ⟨some 7, .call (.func 250) [(.tmp 5),
    (.tmp 6)], none⟩, ⟨some 8, .bin .geq (.tmp 7) (.const (.int .i64 0)), none⟩, ⟨some 4, .mv (.tmp 8), none⟩]) .ret))
theorem low186 : lowF Tryz.prog [] Tryz.f186 = some (9, lc186.strip, [.tmp 4]) := by kernel_rfl
theorem fn186 : FnOk Tryz.prog 186 9 lc186 [.tmp 4] := ⟨Tryz.call186, [], _, Tryz.func186, low186⟩
/-- moonpool/cable.isSized -/
def lc187 : LCode :=
  (.seq (.region [⟨some 4, .mv (.const (.bool false)), none⟩]) (.seq (.region [⟨some 5, .mv (.tmp 0), none⟩, ⟨some 6, .mv (.tmp 1), none⟩, ⟨some 7, .un .neg (.tmp 6), none⟩, ⟨some
    8, .mv (.tmp 1), none⟩, ⟨some 9, .call (.func 128) [(.tmp 5), (.tmp 7), (.tmp 8)], none⟩, ⟨some 4, .mv (.tmp 9), none⟩]) .ret))
theorem low187 : lowF Tryz.prog [] Tryz.f187 = some (10, lc187.strip, [.tmp 4]) := by kernel_rfl
theorem fn187 : FnOk Tryz.prog 187 10 lc187 [.tmp 4] := ⟨Tryz.call187, [], _, Tryz.func187, low187⟩
/-- moonpool/cable.each[moonpool/api.CableLink] -/
def lc188 : LCode :=
  (.seq (.region [⟨some 4, .mv (.const (.int .i64 0)), none⟩, ⟨some 5, .mv (.const (.int .i64 0)), none⟩]) (.seq (.seq (.region [⟨some 9, .mv (.tmp 0), none⟩, ⟨some 10, .len (.tmp
    9), none⟩, ⟨some 11, .mv (.const (.int .i64 0)), none⟩]) (.block 0 (.loop (.seq (.region [⟨some 12, .bin .lss (.tmp 11) (.tmp 10), none⟩]) (.seq (.cond (.tmp 12) .skip (.exit
    0)) (.seq (.block 1 (.seq (.region [⟨some 13, .mv (.tmp 11), none⟩, ⟨some 14, .idx 3 (.tmp 9) (.tmp 11), none⟩, ⟨some 15, .load true 3 (.tmp 14), none⟩, ⟨some 7, .alloc [(.int
    .i64 0), (.int .i64 0), (.int .i64 0)], none⟩, ⟨some 6, .mv (.tmp 13), none⟩, ⟨none, .store 3 (.tmp 7) (.tmp 15), none⟩]) (.seq (.region [⟨some 16, .mv (.tmp 1), none⟩, ⟨some
    17, .mv (.tmp 6), none⟩, ⟨some 18, .load true 3 (.tmp 7), none⟩, ⟨some 19, .call (.tmp 16) [(.tmp 17), (.tmp 18)], none⟩, ⟨some 8, .mv (.tmp 19), none⟩]) (.seq (.region [⟨some
    20, .mv (.tmp 8), none⟩, ⟨some 21, .bin .neq (.tmp 20) (.const (.int .i64 0)), none⟩]) (.cond (.tmp 21) (.seq (.region [⟨some 22, .mv (.tmp 6), none⟩, ⟨some 23, .mv (.tmp 8),
    none⟩, ⟨some 4, .mv (.tmp 22), none⟩, ⟨some 5, .mv (.tmp 23), none⟩]) .ret) .skip))))) (.region [⟨some 24, .bin .add (.tmp 11) (.const (.int .i64 1)), none⟩, ⟨some 11, .mv (.tmp
    24), none⟩]))))))) (.seq (.region [⟨some 4, .mv (.const (.int .i64 0)), none⟩, ⟨some 5, .mv (.const (.int .i64 0)), none⟩]) .ret)))
theorem low188 : lowF Tryz.prog [] Tryz.f188 = some (25, lc188.strip, [.tmp 4, .tmp 5]) := by kernel_rfl
theorem fn188 : FnOk Tryz.prog 188 25 lc188 [.tmp 4, .tmp 5] := ⟨Tryz.call188, [], _, Tryz.func188, low188⟩
/-- moonpool/cable.CheckLine$1 -/
def lc189 : LCode :=
  (.seq (.region [⟨some 3, .box (.tmp 1), none⟩, ⟨some 4, .mv (.const (.int .i64 0)), none⟩]) (.seq (.region [⟨some 6, .fld 0 (.tmp 3), none⟩, ⟨some 7, .load false 1 (.tmp 6),
    none⟩, ⟨some 8, .call (.func 128) [(.tmp 7), (.const (.int .i64 1)), (.const (.int .i64 1000))], none⟩, ⟨some 9, .mv (.tmp 8), none⟩, ⟨some 10, .fld 1 (.tmp 3), some (9, true)⟩,
    ⟨some 11, .load false 1 (.tmp 10), some (9, true)⟩, ⟨some 12, .call (.func 187) [(.tmp 11), (.const (.int .i64 1000))], some (9, true)⟩, ⟨some 13, .pick (.tmp 9) (.tmp 12)
    (.const (.bool false)), none⟩, ⟨some 14, .mv (.tmp 13), none⟩, ⟨some 15, .fld 2 (.tmp 3), some (14, true)⟩, ⟨some 16, .load false 1 (.tmp 15), some (14, true)⟩, ⟨some 17, .call
    (.func 128) [(.tmp 16), (.const (.int .i64 0)), (.const (.int .i64 20))], some (14, true)⟩, ⟨some 18, .pick (.tmp 14) (.tmp 17) (.const (.bool false)), none⟩, ⟨some 5, .mv (.tmp
    18), none⟩]) (.seq (.region [⟨some 19, .mv (.tmp 5), none⟩, ⟨some 20, .call (.func 125) [(.tmp 19), (.const (.int .i64 2))], none⟩, ⟨some 4, .mv (.tmp 20), none⟩]) .ret)))
theorem low189 : lowF Tryz.prog [] Tryz.f189 = some (21, lc189.strip, [.tmp 4]) := by kernel_rfl
theorem fn189 : FnOk Tryz.prog 189 21 lc189 [.tmp 4] := ⟨Tryz.call189, [], _, Tryz.func189, low189⟩
/-- slices.Chunk[[]string,string]$1 -/
def lc190 : LCode :=
  (.seq (.region [⟨some 4, .mv (.const (.int .i64 0)), none⟩]) (.block 0 (.loop (.seq (.seq (.region [⟨some 6, .mv (.tmp 4), none⟩, ⟨some 7, .load false 1 (.tmp 1), none⟩, ⟨some 8,
    .len (.tmp 7), none⟩, ⟨some 9, .bin .lss (.tmp 6) (.tmp 8), none⟩]) (.cond (.tmp 9) .skip (.exit 0))) (.seq (.block 1 (.seq (.regionD [⟨some 13, .load false 1 (.tmp 2), none⟩,
    ⟨some 14, .load false 1 (.tmp 1), none⟩, ⟨some 15, .mv (.tmp 4), none⟩, ⟨some 16, .slc 1 (.tmp 14) (some (.tmp 15)) none, none⟩, ⟨some 17, .len (.tmp 16), none⟩, ⟨some 18, .mm
    false [(.tmp 13), (.tmp 17)], none⟩, ⟨some 5, .mv (.tmp 18), none⟩] [0, 0, 0, 6, 14, 31, 63] [0, 1, 2, 3, 4, 5, 6]) (.seq (.region [⟨some 19, .mv (.tmp 0), none⟩, ⟨some 20,
    .load false 1 (.tmp 1), none⟩, ⟨some 21, .mv (.tmp 4), none⟩, ⟨some 22, .mv (.tmp 4), none⟩, ⟨some 23, .mv (.tmp 5), none⟩, ⟨some 24, .bin .add (.tmp 22) (.tmp 23), none⟩, ⟨some
    25, .mv (.tmp 4), none⟩, ⟨some 26, .mv (.tmp 5), none⟩, ⟨some 27, .bin .add (.tmp 25) (.tmp 26), none⟩, ⟨some 28, .slc3 1 (.tmp 20) (.tmp 21) (.tmp 24) (.tmp 27), none⟩, ⟨some 29, .call (.tmp 19) [(.tmp 28)], none⟩,
    ⟨some 30, .un .not (.tmp 29), none⟩]) (.cond (.tmp 30) .ret .skip)))) (.region [⟨some 10, .mv (.tmp 4), none⟩, ⟨some 11, .load false 1 (.tmp 2), none⟩, ⟨some 12, .bin .add (.tmp
    10) (.tmp 11), none⟩, ⟨some 4, .mv (.tmp 12), none⟩]))))))
theorem low190 : lowF Tryz.prog [] Tryz.f190 = some (31, lc190.strip, []) := by kernel_rfl
theorem fn190 : FnOk Tryz.prog 190 31 lc190 [] := ⟨Tryz.call190, [], _, Tryz.func190, low190⟩
/-- slices.IndexFunc[[]moonpool/api.Range,moonpool/api.Range] -/
def lc193 : LCode :=
  (.seq (.region [⟨some 4, .mv (.const (.int .i64 0)), none⟩]) (.seq (.seq (.region [⟨some 6, .mv (.tmp 0), none⟩, ⟨some 7, .len (.tmp 6), none⟩, ⟨some 8, .mv (.const (.int .i64
    0)), none⟩]) (.block 0 (.loop (.seq (.region [⟨some 9, .bin .lss (.tmp 8) (.tmp 7), none⟩]) (.seq (.cond (.tmp 9) .skip (.exit 0)) (.seq (.block 1 (.seq (.region [⟨some 10, .mv
    (.tmp 8), none⟩, ⟨some 5, .mv (.tmp 10), none⟩]) (.seq (.region [⟨some 11, .mv (.tmp 1), none⟩, ⟨some 12, .mv (.tmp 0), none⟩, ⟨some 13, .mv (.tmp 5), none⟩, ⟨some 14, .idx 2
    (.tmp 12) (.tmp 13), none⟩, ⟨some 15, .load true 2 (.tmp 14), none⟩, ⟨some 16, .call (.tmp 11) [(.tmp 15)], none⟩]) (.cond (.tmp 16) (.seq (.region [⟨some 17, .mv (.tmp 5),
    none⟩, ⟨some 4, .mv (.tmp 17), none⟩]) .ret) .skip)))) (.region [⟨some 18, .bin .add (.tmp 8) (.const (.int .i64 1)), none⟩, ⟨some 8, .mv (.tmp 18), none⟩]))))))) (.seq (.region
    [⟨some 4, .mv (.const (.int .i64 (-1))), none⟩]) .ret)))
theorem low193 : lowF Tryz.prog [] Tryz.f193 = some (19, lc193.strip, [.tmp 4]) := by kernel_rfl
theorem fn193 : FnOk Tryz.prog 193 19 lc193 [.tmp 4] := ⟨Tryz.call193, [], _, Tryz.func193, low193⟩
/-- moonpool/moonpoolbase.Number -/
def lc194 : LCode :=
  (.seq (.region [⟨some 4, .mv (.const (.int .i64 0)), none⟩, ⟨some 5, .mv (.const (.bool false)), none⟩]) (.seq (.region [⟨some 6, .mv (.const (.int .i64 0)), none⟩]) (.seq (.seq
    (.region [⟨some 9, .mv (.tmp 0), none⟩, ⟨some 10, .lenS (.tmp 9), none⟩, ⟨some 11, .bin .gtr (.tmp 10) (.const (.int .i64 0)), none⟩, ⟨some 12, .mv (.tmp 11), none⟩, ⟨some 13,
    .mv (.tmp 0), some (12, true)⟩, ⟨some 14, .indexS (.tmp 13) (.const (.int .i64 0)), some (12, true)⟩, ⟨some 15, .bin .eql (.tmp 14) (.const (.int .u8 45)), some (12, true)⟩,
    ⟨some 16, .pick (.tmp 12) (.tmp 15) (.const (.bool false)), none⟩]) (.cond (.tmp 16) (.region [⟨some 6, .mv (.const (.int .i64 1)), none⟩]) .skip)) (.seq (.seq (.region [⟨some
    17, .mv (.tmp 0), none⟩, ⟨some 18, .lenS (.tmp 17), none⟩, ⟨some 19, .mv (.tmp 6), none⟩, ⟨some 20, .bin .eql (.tmp 18) (.tmp 19), none⟩, ⟨some 21, .mv (.tmp 20), none⟩, ⟨some
    22, .mv (.tmp 0), some (21, false)⟩, ⟨some 23, .lenS (.tmp 22), some (21, false)⟩, ⟨some 24, .mv (.tmp 6), some (21, false)⟩, ⟨some 25, .bin .sub (.tmp 23) (.tmp 24), some (21,
    false)⟩, ⟨some 26, .mv (.tmp 1), some (21, false)⟩, ⟨some 27, .bin .gtr (.tmp 25) (.tmp 26), some (21, false)⟩, ⟨some 28, .pick (.tmp 21) (.const (.bool true)) (.tmp 27), none⟩,
    ⟨some 29, .mv (.tmp 28), none⟩, ⟨some 30, .mv (.tmp 0), some (29, false)⟩, ⟨some 31, .mv (.tmp 6), some (29, false)⟩, ⟨some 32, .indexS (.tmp 30) (.tmp 31), some (29, false)⟩,
    ⟨some 33, .bin .eql (.tmp 32) (.const (.int .u8 48)), some (29, false)⟩, ⟨some 34, .mv (.tmp 33), some (29, false)⟩, ⟨some 35, .mv (.tmp 0), some (34, true)⟩, ⟨some 36, .lenS
    (.tmp 35), some (34, true)⟩, ⟨some 37, .bin .gtr (.tmp 36) (.const (.int .i64 1)), some (34, true)⟩, ⟨some 38, .pick (.tmp 34) (.tmp 37) (.const (.bool false)), some (29,
    false)⟩, ⟨some 39, .pick (.tmp 29) (.const (.bool true)) (.tmp 38), none⟩]) (.cond (.tmp 39) (.seq (.region [⟨some 4, .mv (.const (.int .i64 0)), none⟩, ⟨some 5, .mv (.const
    (.bool false)), none⟩]) .ret) .skip)) (.seq (.region [⟨some 7, .mv (.const (.int .i64 0)), none⟩]) (.seq (.seq (.region [⟨some 40, .mv (.tmp 6), none⟩, ⟨some 8, .mv (.tmp 40),
    none⟩]) (.block 0 (.loop (.seq (.seq (.region [⟨some 41, .mv (.tmp 8), none⟩, ⟨some 42, .mv (.tmp 0), none⟩, ⟨some 43, .lenS (.tmp 42), none⟩, ⟨some 44, .bin .lss (.tmp 41)
    (.tmp 43), none⟩]) (.cond (.tmp 44) .skip (.exit 0))) (.seq (.block 1 (.seq (.seq (.region [⟨some 47, .mv (.tmp 0), none⟩, ⟨some 48, .mv (.tmp 8), none⟩, ⟨some 49, .indexS (.tmp
    47) (.tmp 48), none⟩, ⟨some 50, .bin .lss (.tmp 49) (.const (.int .u8 48)), none⟩, ⟨some 51, .mv (.tmp 50), none⟩, ⟨some 52, .mv (.tmp 0), some (51, false)⟩, ⟨some 53, .mv (.tmp
    8), some (51, false)⟩, ⟨some 54, .indexS (.tmp 52) (.tmp 53), some (51, false)⟩, ⟨some 55, .bin .gtr (.tmp 54) (.const (.int .u8 57)), some (51, false)⟩, ⟨some 56, .pick (.tmp
    51) (.const (.bool true)) (.tmp 55), none⟩]) (.cond (.tmp 56) (.seq (.region [⟨some 4, .mv (.const (.int .i64 0)), none⟩, ⟨some 5, .mv (.const (.bool false)), none⟩]) .ret)
    .skip)) (.region [⟨some 57, .mv (.tmp 7), none⟩, ⟨some 58, .bin .mul (.const (.int .i64 10)) (.tmp 57), none⟩, ⟨some 59, .mv (.tmp 0), none⟩, ⟨some 60, .mv (.tmp 8), none⟩,
    ⟨some 61, .indexS (.tmp 59) (.tmp 60), none⟩, ⟨some 62, .bin .sub (.tmp 61) (.const (.int .u8 48)), none⟩, ⟨some 63, .conv .i64 (.tmp 62), none⟩, ⟨some 64, .bin .add (.tmp 58)
    (.tmp 63), none⟩, ⟨some 7, .mv (.tmp 64), none⟩]))) (.region [⟨some 45, .mv (.tmp 8), none⟩, ⟨some 46, .bin .add (.tmp 45) (.const (.int .i64 1)), none⟩, ⟨some 8, .mv (.tmp 46),
    none⟩])))))) (.seq (.seq (.region [⟨some 65, .mv (.tmp 6), none⟩, ⟨some 66, .bin .eql (.tmp 65) (.const (.int .i64 1)), none⟩]) (.cond (.tmp 66) (.region [⟨some 67, .mv (.tmp
    7), none⟩, ⟨some 68, .un .neg (.tmp 67), none⟩, ⟨some 7, .mv (.tmp 68), none⟩]) .skip)) (.seq (.region [⟨some 69, .mv (.tmp 7), none⟩, ⟨some 4, .mv (.tmp 69), none⟩, ⟨some 5,
    .mv (.const (.bool true)), none⟩]) .ret))))))))
theorem low194 : lowF Tryz.prog [] Tryz.f194 = some (70, lc194.strip, [.tmp 4, .tmp 5]) := by kernel_rfl
theorem fn194 : FnOk Tryz.prog 194 70 lc194 [.tmp 4, .tmp 5] := ⟨Tryz.call194, [], _, Tryz.func194, low194⟩
/-- moonpool/moonpoolref01.isCurrent -/
def lc195 : LCode :=
  (.seq (.region [⟨some 2, .mv (.const (.bool false)), none⟩]) (.seq (.region [⟨some 3, .mv (.tmp 0), none⟩, ⟨some 4, .call (.func 46) [(.tmp 3), (.const (.int .i64 (-50))), (.const
    (.int .i64 50))], none⟩, ⟨some 2, .mv (.tmp 4), none⟩]) .ret))
theorem low195 : lowF Tryz.prog [] Tryz.f195 = some (5, lc195.strip, [.tmp 2]) := by kernel_rfl
theorem fn195 : FnOk Tryz.prog 195 5 lc195 [.tmp 2] := ⟨Tryz.call195, [], _, Tryz.func195, low195⟩
/-- moonpool/cable.CheckBox -/
def lc207 : LCode :=
  (.seq (.region [⟨some 2, .box (.tmp 0), none⟩, ⟨some 4, .mv (.const (.int .i64 0)), none⟩, ⟨some 5, .mv (.const (.int .i64 0)), none⟩]) (.seq (.seq (.region [⟨some 9, .load true 3
    (.tmp 2), none⟩, ⟨some 10, .call (.func 96) [(.tmp 9)], none⟩, ⟨some 8, .mv (.tmp 10), none⟩, ⟨some 11, .ext (.tmp 8) 0, none⟩, ⟨some 12, .ext (.tmp 8) 1, none⟩, ⟨some 6, .mv
    (.tmp 11), none⟩, ⟨some 7, .mv (.tmp 12), none⟩]) (.seq (.region [⟨some 13, .mv (.tmp 7), none⟩, ⟨some 14, .bin .neq (.tmp 13) (.const (.int .i64 0)), none⟩]) (.cond (.tmp 14)
    (.seq (.region [⟨some 15, .mv (.tmp 6), none⟩, ⟨some 16, .mv (.tmp 7), none⟩, ⟨some 4, .mv (.tmp 15), none⟩, ⟨some 5, .mv (.tmp 16), none⟩]) .ret) .skip))) (.seq (.seq (.region
    [⟨some 17, .mv (.tmp 1), none⟩, ⟨some 18, .len (.tmp 17), none⟩, ⟨some 19, .fld 2 (.tmp 2), none⟩, ⟨some 20, .load false 1 (.tmp 19), none⟩, ⟨some 21, .len (.tmp 20), none⟩,
    ⟨some 22, .bin .neq (.tmp 18) (.tmp 21), none⟩]) (.cond (.tmp 22) (.seq (.region [⟨some 4, .mv (.const (.int .i64 0)), none⟩, ⟨some 5, .mv (.const (.int .i64 10)), none⟩]) .ret)
    .skip)) (.seq (.region [⟨some 23, .mv (.tmp 1), none⟩, ⟨some 24, .call (.func 260) [(.tmp 23), (.func 261)], none⟩, ⟨some 25, .ext (.tmp 24) 0, none⟩, ⟨some 26, .ext (.tmp 24)
    1, none⟩, ⟨some 4, .mv (.tmp 25), none⟩, ⟨some 5, .mv (.tmp 26), none⟩]) .ret))))
theorem low207 : lowF Tryz.prog [] Tryz.f207 = some (27, lc207.strip, [.tmp 4, .tmp 5]) := by kernel_rfl
theorem fn207 : FnOk Tryz.prog 207 27 lc207 [.tmp 4, .tmp 5] := ⟨Tryz.call207, [], _, Tryz.func207, low207⟩
/-- (moonpool/cable.line).pulls$1 -/
def lc208 : LCode :=
  (.seq (.region [⟨some 6, .fld 0 (.tmp 1), none⟩, ⟨some 7, .fld 0 (.tmp 6), none⟩, ⟨some 8, .fld 0 (.tmp 7), none⟩, ⟨some 9, .load false 1 (.tmp 8), none⟩, ⟨some 10, .fld 0 (.tmp
    1), none⟩, ⟨some 11, .fld 0 (.tmp 10), none⟩, ⟨some 12, .fld 0 (.tmp 11), none⟩, ⟨some 13, .load false 1 (.tmp 12), none⟩, ⟨some 14, .build [(.int .i64 0), (.int .i64 0)] [(0,
    1, (.tmp 9)), (1, 1, (.tmp 13))], none⟩, ⟨some 15, .fld 0 (.tmp 1), none⟩, ⟨some 16, .fld 0 (.tmp 15), none⟩, ⟨some 17, .fld 1 (.tmp 16), none⟩, ⟨some 18, .load false 1 (.tmp
    17), none⟩, ⟨some 19, .build [(.int .i64 0), (.int .i64 0), (.int .i64 0), (.int .i64 0)] [(0, 2, (.tmp 14)), (2, 1, (.tmp 18))], none⟩, ⟨some 3, .alloc [(.int .i64 0), (.int
    .i64 0), (.int .i64 0), (.int .i64 0)], none⟩, ⟨none, .store 4 (.tmp 3) (.tmp 19), none⟩]) (.seq (.region [⟨some 20, .fld 0 (.tmp 1), none⟩, ⟨some 21, .fld 2 (.tmp 20), none⟩,
    ⟨some 22, .load false 1 (.tmp 21), none⟩, ⟨some 23, .len (.tmp 22), none⟩, ⟨some 24, .mv (.const (.int .i64 0)), none⟩]) (.block 0 (.loop (.seq (.region [⟨some 25, .bin .lss
    (.tmp 24) (.tmp 23), none⟩]) (.seq (.cond (.tmp 25) .skip (.exit 0)) (.seq (.block 1 (.seq (.region [⟨some 26, .mv (.tmp 24), none⟩, ⟨some 27, .idx 3 (.tmp 22) (.tmp 24), none⟩,
    ⟨some 28, .load true 3 (.tmp 27), none⟩, ⟨some 5, .alloc [(.int .i64 0), (.int .i64 0), (.int .i64 0)], none⟩, ⟨some 4, .mv (.tmp 26), none⟩, ⟨none, .store 3 (.tmp 5) (.tmp 28),
    none⟩]) (.seq (.regionD [⟨some 29, .fld 0 (.tmp 3), none⟩, ⟨some 30, .fld 0 (.tmp 29), none⟩, ⟨some 31, .load false 1 (.tmp 30), none⟩, ⟨some 32, .fld 2 (.tmp 5), none⟩, ⟨some
    33, .load false 1 (.tmp 32), none⟩, ⟨some 34, .fld 3 (.tmp 1), none⟩, ⟨some 35, .load false 1 (.tmp 34), none⟩, ⟨some 36, .mv (.tmp 4), none⟩, ⟨some 37, .idx 2 (.tmp 35) (.tmp
    36), none⟩, ⟨some 38, .fld 0 (.tmp 37), none⟩, ⟨some 39, .load false 1 (.tmp 38), none⟩, ⟨some 40, .bin .mul (.tmp 33) (.tmp 39), none⟩, ⟨some 41, .bin .add (.tmp 31) (.tmp 40),
    none⟩, ⟨some 42, .fld 0 (.tmp 3), none⟩, ⟨some 43, .fld 0 (.tmp 42), none⟩, ⟨none, .store 1 (.tmp 43) (.tmp 41), none⟩] [0, 1, 3, 0, 8, 0, 32, 0, 224, 480, 992, 2040, 4095,
    8191, 16383, 32767] [0, 1, 2, 3, 4, 5, 6, 7, 8, 9, 10, 11, 12, 13, 14, 15]) (.seq (.regionD [⟨some 44, .fld 0 (.tmp 3), none⟩, ⟨some 45, .fld 1 (.tmp 44), none⟩, ⟨some 46, .load
    false 1 (.tmp 45), none⟩, ⟨some 47, .fld 2 (.tmp 5), none⟩, ⟨some 48, .load false 1 (.tmp 47), none⟩, ⟨some 49, .fld 3 (.tmp 1), none⟩, ⟨some 50, .load false 1 (.tmp 49), none⟩,
    ⟨some 51, .mv (.tmp 4), none⟩, ⟨some 52, .idx 2 (.tmp 50) (.tmp 51), none⟩, ⟨some 53, .fld 1 (.tmp 52), none⟩, ⟨some 54, .load false 1 (.tmp 53), none⟩, ⟨some 55, .bin .mul
    (.tmp 48) (.tmp 54), none⟩, ⟨some 56, .bin .add (.tmp 46) (.tmp 55), none⟩, ⟨some 57, .fld 0 (.tmp 3), none⟩, ⟨some 58, .fld 1 (.tmp 57), none⟩, ⟨none, .store 1 (.tmp 58) (.tmp
    56), none⟩] [0, 1, 3, 0, 8, 0, 32, 0, 224, 480, 992, 2040, 4095, 8191, 16383, 32767] [0, 1, 2, 3, 4, 5, 6, 7, 8, 9, 10, 11, 12, 13, 14, 15]) (.seq (.regionD [⟨some 59, .fld 2
    (.tmp 3), none⟩, ⟨some 60, .load false 1 (.tmp 59), none⟩, ⟨some 61, .fld 1 (.tmp 5), none⟩, ⟨some 62, .load false 1 (.tmp 61), none⟩, ⟨some 63, .bin .add (.tmp 60) (.tmp 62),
    none⟩, ⟨some 64, .fld 0 (.tmp 5), none⟩, ⟨some 65, .load false 1 (.tmp 64), none⟩, ⟨some 66, .fld 2 (.tmp 3), none⟩, ⟨none, .store 1 (.tmp 66) (.tmp 63), none⟩, ⟨some 67, .fld 3
    (.tmp 3), none⟩, ⟨none, .store 1 (.tmp 67) (.tmp 65), none⟩] [0, 1, 0, 4, 15, 0, 32, 31, 159, 511, 1023] [0, 1, 2, 3, 4, 5, 6, 7, 8, 9, 10]) (.seq (.region [⟨some 68, .mv (.tmp
    0), none⟩, ⟨some 69, .mv (.tmp 4), none⟩, ⟨some 70, .load true 4 (.tmp 3), none⟩, ⟨some 71, .call (.tmp 68) [(.tmp 69), (.tmp 70)], none⟩, ⟨some 72, .un .not (.tmp 71), none⟩])
    (.cond (.tmp 72) .ret .skip))))))) (.region [⟨some 73, .bin .add (.tmp 24) (.const (.int .i64 1)), none⟩, ⟨some 24, .mv (.tmp 73), none⟩]))))))))
theorem low208 : lowF Tryz.prog [] Tryz.f208 = some (74, lc208.strip, []) := by kernel_rfl
theorem fn208 : FnOk Tryz.prog 208 74 lc208 [] := ⟨Tryz.call208, [], _, Tryz.func208, low208⟩
/-- moonpool/cable.open$1 -/
def lc209 : LCode :=
  (.seq (.region [⟨some 4, .mv (.const (.int .i64 0)), none⟩]) (.seq (.region [⟨some 5, .mv (.tmp 1), none⟩, ⟨some 6, .call (.func 210) [(.tmp 5)], none⟩, ⟨some 7, .call (.func 125)
    [(.tmp 6), (.const (.int .i64 2))], none⟩, ⟨some 4, .mv (.tmp 7), none⟩]) .ret))
theorem low209 : lowF Tryz.prog [] Tryz.f209 = some (8, lc209.strip, [.tmp 4]) := by kernel_rfl
theorem fn209 : FnOk Tryz.prog 209 8 lc209 [.tmp 4] := ⟨Tryz.call209, [], _, Tryz.func209, low209⟩
/-- moonpool/cable.isCurrent -/
def lc210 : LCode :=
  (.seq (.region [⟨some 2, .mv (.const (.bool false)), none⟩]) (.seq (.region [⟨some 3, .mv (.tmp 0), none⟩, ⟨some 4, .call (.func 187) [(.tmp 3), (.const (.int .i64 50))], none⟩,
    ⟨some 2, .mv (.tmp 4), none⟩]) .ret))
theorem low210 : lowF Tryz.prog [] Tryz.f210 = some (5, lc210.strip, [.tmp 2]) := by kernel_rfl
theorem fn210 : FnOk Tryz.prog 210 5 lc210 [.tmp 2] := ⟨Tryz.call210, [], _, Tryz.func210, low210⟩
def ra214 : LCode :=
  (.region [⟨some 4, .alloc [(.int .i64 0), (.int .i64 0), (.int .i64 0), (.int .i64 0)], none⟩, ⟨none, .store 4 (.tmp 4) (.tmp 8), none⟩])
def rb214 : LCode :=
  (.block 1 (.seq (.region [⟨some 9, .fld 2 (.tmp 4), none⟩, ⟨some 10, .load false 1 (.tmp 9), none⟩, ⟨some 11, .bin .leq (.tmp 10) (.const (.int .i64 0)), none⟩]) (.cond (.tmp 11)
    (.seq (.region [⟨none, .store 1 (.tmp 2) (.const (.int .i64 21)), none⟩]) .ret) .skip)))
/-- (moonpool/cable.line).slackErr -/
def lc214 : LCode :=
  (.seq (.region [⟨some 1, .box (.tmp 0), none⟩, ⟨some 2, .alloc [(.int .i64 0)], none⟩]) (.seq (.seq (.region [⟨some 5, .load true 4 (.tmp 1), none⟩, ⟨some 6, .call (.func 121)
    [(.tmp 5)], none⟩]) (.block 0 (.rangeFunc (.tmp 6) [7, 8] ra214 rb214))) (.seq (.region [⟨none, .store 1 (.tmp 2) (.const (.int .i64 0)), none⟩]) .ret)))
theorem low214 : lowF Tryz.prog [] Tryz.f214 = some (12, lc214.strip, [.cell 2 false 1]) := by kernel_rfl
theorem fn214 : FnOk Tryz.prog 214 12 lc214 [.cell 2 false 1] := ⟨Tryz.call214, [], _, Tryz.func214, low214⟩
end Go.Pw

set_option linter.unusedVariables false
set_option maxHeartbeats 2000000
set_option maxRecDepth 100000
namespace Go.Pw
open Go Go.Proofs
/-- moonpool/cable.floor -/
def lc236 : LCode :=
  (.seq (.region [⟨some 4, .mv (.const (.int .i64 0)), none⟩]) (.seq (.region [⟨some 6, .mv (.tmp 0), none⟩, ⟨some 7, .mv (.tmp 1), none⟩, ⟨some 8, .bin .quo (.tmp 6) (.tmp 7),
    none⟩, ⟨some 5, .mv (.tmp 8), none⟩]) (.seq (.seq (.region [⟨some 9, .mv (.tmp 0), none⟩, ⟨some 10, .mv (.tmp 1), none⟩, ⟨some 11, .bin .rem (.tmp 9) (.tmp 10), none⟩, ⟨some 12,
    .bin .lss (.tmp 11) (.const (.int .i64 0)), none⟩]) (.cond (.tmp 12) (.region [⟨some 13, .mv (.tmp 5), none⟩, ⟨some 14, .bin .sub (.tmp 13) (.const (.int .i64 1)), none⟩, ⟨some
    5, .mv (.tmp 14), none⟩]) .skip)) (.seq (.region [⟨some 15, .mv (.tmp 5), none⟩, ⟨some 4, .mv (.tmp 15), none⟩]) .ret))))
theorem low236 : lowF Tryz.prog [] Tryz.f236 = some (16, lc236.strip, [.tmp 4]) := by kernel_rfl
theorem fn236 : FnOk Tryz.prog 236 16 lc236 [.tmp 4] := ⟨Tryz.call236, [], _, Tryz.func236, low236⟩
/-- moonpool/cable.ceil -/
def lc237 : LCode :=
  (.seq (.region [⟨some 4, .mv (.const (.int .i64 0)), none⟩]) (.seq (.region [⟨some 5, .mv (.tmp 0), none⟩, ⟨some 6, .un .neg (.tmp 5), none⟩, ⟨some 7, .mv (.tmp 1), none⟩, ⟨some
    8, .call (.func 236) [(.tmp 6), (.tmp 7)], none⟩, ⟨some 9, .un .neg (.tmp 8), none⟩, ⟨some 4, .mv (.tmp 9), none⟩]) .ret))
theorem low237 : lowF Tryz.prog [] Tryz.f237 = some (10, lc237.strip, [.tmp 4]) := by kernel_rfl
theorem fn237 : FnOk Tryz.prog 237 10 lc237 [.tmp 4] := ⟨Tryz.call237, [], _, Tryz.func237, low237⟩
/-- moonpool/cable.fraction -/
def lc238 : LCode :=
  (.seq (.region [⟨some 4, .alloc [(.int .i64 0), (.int .i64 0)], none⟩]) (.seq (.region [⟨some 6, .mv (.tmp 0), none⟩, ⟨some 7, .mv (.tmp 1), none⟩, ⟨some 8, .call (.func 269)
    [(.tmp 6), (.tmp 7)], none⟩, ⟨some 5, .mv (.tmp 8), none⟩]) (.seq (.regionD [⟨some 9, .mv (.tmp 0), none⟩, ⟨some 10, .mv (.tmp 5), none⟩, ⟨some 11, .bin .quo (.tmp 9) (.tmp 10),
    none⟩, ⟨some 12, .mv (.tmp 1), none⟩, ⟨some 13, .mv (.tmp 5), none⟩, ⟨some 14, .bin .quo (.tmp 12) (.tmp 13), none⟩, ⟨some 15, .build [(.int .i64 0), (.int .i64 0)] [(0, 1,
    (.tmp 11)), (1, 1, (.tmp 14))], none⟩, ⟨none, .store 2 (.tmp 4) (.tmp 15), none⟩] [0, 0, 3, 0, 0, 24, 63, 127] [0, 1, 2, 3, 4, 5, 6, 7]) .ret)))
theorem low238 : lowF Tryz.prog [] Tryz.f238 = some (16, lc238.strip, [.cell 4 true 2]) := by kernel_rfl
theorem fn238 : FnOk Tryz.prog 238 16 lc238 [.cell 4 true 2] := ⟨Tryz.call238, [], _, Tryz.func238, low238⟩
/-- math/bits.Mul64 -/
def lc239 : LCode :=
  (.seq (.region [⟨some 4, .mv (.const (.int .u64 0)), none⟩, ⟨some 5, .mv (.const (.int .u64 0)), none⟩]) (.seq (.region [⟨some 14, .mv (.tmp 0), none⟩, ⟨some 15, .bin .and (.tmp
    14) (.const (.int .u64 4294967295)), none⟩, ⟨some 6, .mv (.tmp 15), none⟩]) (.seq (.region [⟨some 16, .mv (.tmp 0), none⟩, ⟨some 17, .bin .shr (.tmp 16) (.const (.int .u64 32)),
    none⟩, ⟨some 7, .mv (.tmp 17), none⟩]) (.seq (.region [⟨some 18, .mv (.tmp 1), none⟩, ⟨some 19, .bin .and (.tmp 18) (.const (.int .u64 4294967295)), none⟩, ⟨some 8, .mv (.tmp
    19), none⟩]) (.seq (.region [⟨some 20, .mv (.tmp 1), none⟩, ⟨some 21, .bin .shr (.tmp 20) (.const (.int .u64 32)), none⟩, ⟨some 9, .mv (.tmp 21), none⟩]) (.seq (.region [⟨some
    22, .mv (.tmp 6), none⟩, ⟨some 23, .mv (.tmp 8), none⟩, ⟨some 24, .bin .mul (.tmp 22) (.tmp 23), none⟩, ⟨some 10, .mv (.tmp 24), none⟩]) (.seq (.region [⟨some 25, .mv (.tmp 7),
    none⟩, ⟨some 26, .mv (.tmp 8), none⟩, ⟨some 27, .bin .mul (.tmp 25) (.tmp 26), none⟩, ⟨some 28, .mv (.tmp 10), none⟩, ⟨some 29, .bin .shr (.tmp 28) (.const (.int .u64 32)),
    none⟩, ⟨some 30, .bin .add (.tmp 27) (.tmp 29), none⟩, ⟨some 11, .mv (.tmp 30), none⟩]) (.seq (.region [⟨some 31, .mv (.tmp 11), none⟩, ⟨some 32, .bin .and (.tmp 31) (.const
    (.int .u64 4294967295)), none⟩, ⟨some 12, .mv (.tmp 32), none⟩]) (.seq (.region [⟨some 33, .mv (.tmp 11), none⟩, ⟨some 34, .bin .shr (.tmp 33) (.const (.int .u64 32)), none⟩,
    ⟨some 13, .mv (.tmp 34), none⟩]) (.seq (.region [⟨some 35, .mv (.tmp 12), none⟩, ⟨some 36, .mv (.tmp 6), none⟩, ⟨some 37, .mv (.tmp 9), none⟩, ⟨some 38, .bin .mul (.tmp 36)
    (.tmp 37), none⟩, ⟨some 39, .bin .add (.tmp 35) (.tmp 38), none⟩, ⟨some 12, .mv (.tmp 39), none⟩]) (.seq (.region [⟨some 40, .mv (.tmp 7), none⟩, ⟨some 41, .mv (.tmp 9), none⟩,
    ⟨some 42, .bin .mul (.tmp 40) (.tmp 41), none⟩, ⟨some 43, .mv (.tmp 13), none⟩, ⟨some 44, .bin .add (.tmp 42) (.tmp 43), none⟩, ⟨some 45, .mv (.tmp 12), none⟩, ⟨some 46, .bin
    .shr (.tmp 45) (.const (.int .u64 32)), none⟩, ⟨some 47, .bin .add (.tmp 44) (.tmp 46), none⟩, ⟨some 4, .mv (.tmp 47), none⟩]) (.seq (.region [⟨some 48, .mv (.tmp 0), none⟩,
    ⟨some 49, .mv (.tmp 1), none⟩, ⟨some 50, .bin .mul (.tmp 48) (.tmp 49), none⟩, ⟨some 5, .mv (.tmp 50), none⟩]) .ret))))))))))))
theorem low239 : lowF Tryz.prog [] Tryz.f239 = some (51, lc239.strip, [.tmp 4, .tmp 5]) := by kernel_rfl
theorem fn239 : FnOk Tryz.prog 239 51 lc239 [.tmp 4, .tmp 5] := ⟨Tryz.call239, [], _, Tryz.func239, low239⟩
/-- slices.ContainsFunc[[][2]int,[2]int] -/
def lc240 : LCode :=
  (.seq (.region [⟨some 4, .mv (.const (.bool false)), none⟩]) (.seq (.region [⟨some 5, .mv (.tmp 0), none⟩, ⟨some 6, .mv (.tmp 1), none⟩, ⟨some 7, .call (.func 270) [(.tmp 5),
    (.tmp 6)], none⟩, ⟨some 8, .bin .geq (.tmp 7) (.const (.int .i64 0)), none⟩, ⟨some 4, .mv (.tmp 8), none⟩]) .ret))
theorem low240 : lowF Tryz.prog [] Tryz.f240 = some (9, lc240.strip, [.tmp 4]) := by kernel_rfl
theorem fn240 : FnOk Tryz.prog 240 9 lc240 [.tmp 4] := ⟨Tryz.call240, [], _, Tryz.func240, low240⟩
/-- moonpool/cable.pathErr$1 -/
def lc241 : LCode :=
  (.seq (.region [⟨some 1, .box (.tmp 0), none⟩, ⟨some 2, .mv (.const (.bool false)), none⟩]) (.seq (.region [⟨some 3, .load true 2 (.tmp 1), none⟩, ⟨some 4, .call (.func 242)
    [(.tmp 3)], none⟩, ⟨some 5, .un .not (.tmp 4), none⟩, ⟨some 2, .mv (.tmp 5), none⟩]) .ret))
theorem low241 : lowF Tryz.prog [] Tryz.f241 = some (6, lc241.strip, [.tmp 2]) := by kernel_rfl
theorem fn241 : FnOk Tryz.prog 241 6 lc241 [.tmp 2] := ⟨Tryz.call241, [], _, Tryz.func241, low241⟩
/-- (moonpool/cable.place).isPlace -/
def lc242 : LCode :=
  (.seq (.region [⟨some 1, .box (.tmp 0), none⟩, ⟨some 2, .mv (.const (.bool false)), none⟩]) (.seq (.region [⟨some 3, .idxA 1 2 (.tmp 1) (.const (.int .i64 0)), none⟩, ⟨some 4,
    .load false 1 (.tmp 3), none⟩, ⟨some 5, .call (.func 187) [(.tmp 4), (.const (.int .i64 10000))], none⟩, ⟨some 6, .mv (.tmp 5), none⟩, ⟨some 7, .idxA 1 2 (.tmp 1) (.const (.int
    .i64 1)), some (6, true)⟩, ⟨some 8, .load false 1 (.tmp 7), some (6, true)⟩, ⟨some 9, .call (.func 187) [(.tmp 8), (.const (.int .i64 10000))], some (6, true)⟩, ⟨some 10, .pick
    (.tmp 6) (.tmp 9) (.const (.bool false)), none⟩, ⟨some 2, .mv (.tmp 10), none⟩]) .ret))
theorem low242 : lowF Tryz.prog [] Tryz.f242 = some (11, lc242.strip, [.tmp 2]) := by kernel_rfl
theorem fn242 : FnOk Tryz.prog 242 11 lc242 [.tmp 2] := ⟨Tryz.call242, [], _, Tryz.func242, low242⟩
def ra243 : LCode :=
  (.seq (.region [⟨some 7, .alloc [(.int .i64 0), (.int .i64 0)], none⟩, ⟨none, .store 2 (.tmp 7) (.tmp 13), none⟩]) (.region [⟨some 8, .alloc [(.int .i64 0), (.int .i64 0)], none⟩,
    ⟨none, .store 2 (.tmp 8) (.tmp 14), none⟩]))
def rb243 : LCode :=
  (.block 1 (.seq (.regionD [⟨some 15, .load true 2 (.tmp 8), none⟩, ⟨some 16, .load true 2 (.tmp 7), none⟩, ⟨some 17, .call (.func 272) [(.tmp 15), (.tmp 16)], none⟩, ⟨some 18,
    .load true 2 (.tmp 3), none⟩, ⟨some 19, .load true 2 (.tmp 7), none⟩, ⟨some 20, .call (.func 272) [(.tmp 18), (.tmp 19)], none⟩, ⟨some 21, .call (.func 273) [(.tmp 17), (.tmp
    20)], none⟩, ⟨some 9, .mv (.tmp 21), none⟩] [0, 0, 3, 0, 0, 31, 63, 127] [0, 1, 2, 3, 4, 5, 6, 7]) (.seq (.region [⟨some 22, .idxA 1 2 (.tmp 3) (.const (.int .i64 0)), none⟩,
    ⟨some 23, .load false 1 (.tmp 22), none⟩, ⟨some 24, .idxA 1 2 (.tmp 7) (.const (.int .i64 0)), none⟩, ⟨some 25, .load false 1 (.tmp 24), none⟩, ⟨some 26, .idxA 1 2 (.tmp 8)
    (.const (.int .i64 0)), none⟩, ⟨some 27, .load false 1 (.tmp 26), none⟩, ⟨some 28, .mm false [(.tmp 25), (.tmp 27)], none⟩, ⟨some 29, .idxA 1 2 (.tmp 7) (.const (.int .i64 0)),
    none⟩, ⟨some 30, .load false 1 (.tmp 29), none⟩, ⟨some 31, .idxA 1 2 (.tmp 8) (.const (.int .i64 0)), none⟩, ⟨some 32, .load false 1 (.tmp 31), none⟩, ⟨some 33, .mm true [(.tmp
    30), (.tmp 32)], none⟩, ⟨some 34, .call (.func 128) [(.tmp 23), (.tmp 28), (.tmp 33)], none⟩, ⟨some 35, .mv (.tmp 34), none⟩, ⟨some 36, .idxA 1 2 (.tmp 3) (.const (.int .i64
    1)), some (35, true)⟩, ⟨some 37, .load false 1 (.tmp 36), some (35, true)⟩, ⟨some 38, .idxA 1 2 (.tmp 7) (.const (.int .i64 1)), some (35, true)⟩, ⟨some 39, .load false 1 (.tmp
    38), some (35, true)⟩, ⟨some 40, .idxA 1 2 (.tmp 8) (.const (.int .i64 1)), some (35, true)⟩, ⟨some 41, .load false 1 (.tmp 40), some (35, true)⟩, ⟨some 42, .mm false [(.tmp
    39), (.tmp 41)], some (35, true)⟩, ⟨some 43, .idxA 1 2 (.tmp 7) (.const (.int .i64 1)), some (35, true)⟩, ⟨some 44, .load false 1 (.tmp 43), some (35, true)⟩, ⟨some 45, .idxA 1
    2 (.tmp 8) (.const (.int .i64 1)), some (35, true)⟩, ⟨some 46, .load false 1 (.tmp 45), some (35, true)⟩, ⟨some 47, .mm true [(.tmp 44), (.tmp 46)], some (35, true)⟩, ⟨some 48,
    .call (.func 128) [(.tmp 37), (.tmp 42), (.tmp 47)], some (35, true)⟩, ⟨some 49, .pick (.tmp 35) (.tmp 48) (.const (.bool false)), none⟩, ⟨some 10, .mv (.tmp 49), none⟩])
    (.block 2 (.seq (.region [⟨some 51, .mv (.tmp 9), none⟩, ⟨some 52, .bin .eql (.tmp 51) (.const (.int .i64 0)), none⟩, ⟨some 53, .mv (.tmp 52), none⟩, ⟨some 54, .mv (.tmp 10),
    some (53, true)⟩, ⟨some 55, .pick (.tmp 53) (.tmp 54) (.const (.bool false)), none⟩, ⟨some 50, .mv (.tmp 55), none⟩]) (.cond (.tmp 50) (.seq (.region [⟨none, .store 1 (.tmp 4)
    (.const (.int .i64 0)), none⟩, ⟨none, .store 1 (.tmp 5) (.const (.bool false)), none⟩]) .ret) (.seq (.region [⟨some 57, .idxA 1 2 (.tmp 7) (.const (.int .i64 1)), none⟩, ⟨some
    58, .load false 1 (.tmp 57), none⟩, ⟨some 59, .idxA 1 2 (.tmp 3) (.const (.int .i64 1)), none⟩, ⟨some 60, .load false 1 (.tmp 59), none⟩, ⟨some 61, .bin .leq (.tmp 58) (.tmp
    60), none⟩, ⟨some 62, .mv (.tmp 61), none⟩, ⟨some 63, .idxA 1 2 (.tmp 3) (.const (.int .i64 1)), some (62, true)⟩, ⟨some 64, .load false 1 (.tmp 63), some (62, true)⟩, ⟨some 65,
    .idxA 1 2 (.tmp 8) (.const (.int .i64 1)), some (62, true)⟩, ⟨some 66, .load false 1 (.tmp 65), some (62, true)⟩, ⟨some 67, .bin .lss (.tmp 64) (.tmp 66), some (62, true)⟩,
    ⟨some 68, .pick (.tmp 62) (.tmp 67) (.const (.bool false)), none⟩, ⟨some 69, .mv (.tmp 68), none⟩, ⟨some 70, .mv (.tmp 9), some (69, true)⟩, ⟨some 71, .bin .gtr (.tmp 70)
    (.const (.int .i64 0)), some (69, true)⟩, ⟨some 72, .pick (.tmp 69) (.tmp 71) (.const (.bool false)), none⟩, ⟨some 56, .mv (.tmp 72), none⟩]) (.cond (.tmp 56) (.region [⟨some
    73, .load false 1 (.tmp 6), none⟩, ⟨some 74, .bin .add (.tmp 73) (.const (.int .i64 1)), none⟩, ⟨none, .store 1 (.tmp 6) (.tmp 74), none⟩]) (.seq (.region [⟨some 76, .idxA 1 2
    (.tmp 8) (.const (.int .i64 1)), none⟩, ⟨some 77, .load false 1 (.tmp 76), none⟩, ⟨some 78, .idxA 1 2 (.tmp 3) (.const (.int .i64 1)), none⟩, ⟨some 79, .load false 1 (.tmp 78),
    none⟩, ⟨some 80, .bin .leq (.tmp 77) (.tmp 79), none⟩, ⟨some 81, .mv (.tmp 80), none⟩, ⟨some 82, .idxA 1 2 (.tmp 3) (.const (.int .i64 1)), some (81, true)⟩, ⟨some 83, .load
    false 1 (.tmp 82), some (81, true)⟩, ⟨some 84, .idxA 1 2 (.tmp 7) (.const (.int .i64 1)), some (81, true)⟩, ⟨some 85, .load false 1 (.tmp 84), some (81, true)⟩, ⟨some 86, .bin
    .lss (.tmp 83) (.tmp 85), some (81, true)⟩, ⟨some 87, .pick (.tmp 81) (.tmp 86) (.const (.bool false)), none⟩, ⟨some 88, .mv (.tmp 87), none⟩, ⟨some 89, .mv (.tmp 9), some (88,
    true)⟩, ⟨some 90, .bin .lss (.tmp 89) (.const (.int .i64 0)), some (88, true)⟩, ⟨some 91, .pick (.tmp 88) (.tmp 90) (.const (.bool false)), none⟩, ⟨some 75, .mv (.tmp 91),
    none⟩]) (.cond (.tmp 75) (.region [⟨some 92, .load false 1 (.tmp 6), none⟩, ⟨some 93, .bin .sub (.tmp 92) (.const (.int .i64 1)), none⟩, ⟨none, .store 1 (.tmp 6) (.tmp 93),
    none⟩]) .skip))))))))))
/-- moonpool/cable.winding -/
def lc243 : LCode :=
  (.seq (.region [⟨some 3, .box (.tmp 1), none⟩, ⟨some 4, .alloc [(.int .i64 0)], none⟩, ⟨some 5, .alloc [(.bool false)], none⟩]) (.seq (.region [⟨some 6, .alloc [(.int .i64 0)],
    none⟩, ⟨none, .store 1 (.tmp 6) (.const (.int .i64 0)), none⟩]) (.seq (.seq (.region [⟨some 11, .mv (.tmp 0), none⟩, ⟨some 12, .call (.func 271) [(.tmp 11)], none⟩]) (.block 0
    (.rangeFunc (.tmp 12) [13, 14] ra243 rb243))) (.seq (.region [⟨some 94, .load false 1 (.tmp 6), none⟩, ⟨none, .store 1 (.tmp 4) (.tmp 94), none⟩, ⟨none, .store 1 (.tmp 5)
    (.const (.bool true)), none⟩]) .ret))))
theorem low243 : lowF Tryz.prog [] Tryz.f243 = some (95, lc243.strip, [.cell 4 false 1, .cell 5 false 1]) := by kernel_rfl
theorem fn243 : FnOk Tryz.prog 243 95 lc243 [.cell 4 false 1, .cell 5 false 1] := ⟨Tryz.call243, [], _, Tryz.func243, low243⟩
end Go.Pw

set_option linter.unusedVariables false
set_option maxHeartbeats 2000000
set_option maxRecDepth 100000
namespace Go.Pw
open Go Go.Proofs
/-- moonpool/cable.each[moonpool/api.Range] -/
def lc260 : LCode :=
  (.seq (.region [⟨some 4, .mv (.const (.int .i64 0)), none⟩, ⟨some 5, .mv (.const (.int .i64 0)), none⟩]) (.seq (.seq (.region [⟨some 9, .mv (.tmp 0), none⟩, ⟨some 10, .len (.tmp
    9), none⟩, ⟨some 11, .mv (.const (.int .i64 0)), none⟩]) (.block 0 (.loop (.seq (.region [⟨some 12, .bin .lss (.tmp 11) (.tmp 10), none⟩]) (.seq (.cond (.tmp 12) .skip (.exit
    0)) (.seq (.block 1 (.seq (.region [⟨some 13, .mv (.tmp 11), none⟩, ⟨some 14, .idx 2 (.tmp 9) (.tmp 11), none⟩, ⟨some 15, .load true 2 (.tmp 14), none⟩, ⟨some 7, .alloc [(.int
    .i64 0), (.int .i64 0)], none⟩, ⟨some 6, .mv (.tmp 13), none⟩, ⟨none, .store 2 (.tmp 7) (.tmp 15), none⟩]) (.seq (.region [⟨some 16, .mv (.tmp 1), none⟩, ⟨some 17, .mv (.tmp 6),
    none⟩, ⟨some 18, .load true 2 (.tmp 7), none⟩, ⟨some 19, .call (.tmp 16) [(.tmp 17), (.tmp 18)], none⟩, ⟨some 8, .mv (.tmp 19), none⟩]) (.seq (.region [⟨some 20, .mv (.tmp 8),
    none⟩, ⟨some 21, .bin .neq (.tmp 20) (.const (.int .i64 0)), none⟩]) (.cond (.tmp 21) (.seq (.region [⟨some 22, .mv (.tmp 6), none⟩, ⟨some 23, .mv (.tmp 8), none⟩, ⟨some 4, .mv
    (.tmp 22), none⟩, ⟨some 5, .mv (.tmp 23), none⟩]) .ret) .skip))))) (.region [⟨some 24, .bin .add (.tmp 11) (.const (.int .i64 1)), none⟩, ⟨some 11, .mv (.tmp 24), none⟩])))))))
    (.seq (.region [⟨some 4, .mv (.const (.int .i64 0)), none⟩, ⟨some 5, .mv (.const (.int .i64 0)), none⟩]) .ret)))
theorem low260 : lowF Tryz.prog [] Tryz.f260 = some (25, lc260.strip, [.tmp 4, .tmp 5]) := by kernel_rfl
theorem fn260 : FnOk Tryz.prog 260 25 lc260 [.tmp 4, .tmp 5] := ⟨Tryz.call260, [], _, Tryz.func260, low260⟩
/-- moonpool/cable.CheckBox$1 -/
def lc261 : LCode :=
  (.seq (.region [⟨some 3, .box (.tmp 1), none⟩, ⟨some 4, .mv (.const (.int .i64 0)), none⟩]) (.seq (.regionD [⟨some 5, .fld 0 (.tmp 3), none⟩, ⟨some 6, .load false 1 (.tmp 5),
    none⟩, ⟨some 7, .call (.func 210) [(.tmp 6)], none⟩, ⟨some 8, .mv (.tmp 7), none⟩, ⟨some 9, .fld 1 (.tmp 3), some (8, true)⟩, ⟨some 10, .load false 1 (.tmp 9), some (8, true)⟩,
    ⟨some 11, .call (.func 210) [(.tmp 10)], some (8, true)⟩, ⟨some 12, .pick (.tmp 8) (.tmp 11) (.const (.bool false)), none⟩, ⟨some 13, .call (.func 125) [(.tmp 12), (.const (.int
    .i64 2))], none⟩, ⟨some 14, .fld 0 (.tmp 3), none⟩, ⟨some 15, .load false 1 (.tmp 14), none⟩, ⟨some 16, .fld 1 (.tmp 3), none⟩, ⟨some 17, .load false 1 (.tmp 16), none⟩, ⟨some
    18, .bin .leq (.tmp 15) (.tmp 17), none⟩, ⟨some 19, .call (.func 125) [(.tmp 18), (.const (.int .i64 9))], none⟩, ⟨some 20, .lit false 34 1 [(.tmp 13), (.tmp 19)], none⟩, ⟨some
    21, .call (.func 124) [(.tmp 20)], none⟩, ⟨some 4, .mv (.tmp 21), none⟩] [0, 1, 3, 7, 15, 31, 63, 127, 255, 0, 512, 0, 2048, 7680, 16383, 32767, 65535, 131071] [0, 1, 2, 3, 4,
    5, 6, 7, 8, 9, 10, 11, 12, 13, 14, 15, 16, 17]) .ret))
theorem low261 : lowF Tryz.prog [] Tryz.f261 = some (22, lc261.strip, [.tmp 4]) := by kernel_rfl
theorem fn261 : FnOk Tryz.prog 261 22 lc261 [.tmp 4] := ⟨Tryz.call261, [], _, Tryz.func261, low261⟩
/-- moonpool/cable.divisor -/
def lc269 : LCode :=
  (.seq (.region [⟨some 4, .mv (.const (.int .i64 0)), none⟩]) (.seq (.block 0 (.loop (.seq (.seq (.region [⟨some 5, .mv (.tmp 1), none⟩, ⟨some 6, .bin .neq (.tmp 5) (.const (.int
    .i64 0)), none⟩]) (.cond (.tmp 6) .skip (.exit 0))) (.block 1 (.regionD [⟨some 7, .mv (.tmp 1), none⟩, ⟨some 8, .mv (.tmp 0), none⟩, ⟨some 9, .mv (.tmp 1), none⟩, ⟨some 10, .bin
    .rem (.tmp 8) (.tmp 9), none⟩, ⟨some 0, .mv (.tmp 7), none⟩, ⟨some 1, .mv (.tmp 10), none⟩] [0, 0, 0, 6, 3, 31] [0, 1, 2, 3, 4, 5]))))) (.seq (.region [⟨some 11, .mv (.tmp 0),
    none⟩, ⟨some 12, .mv (.tmp 0), none⟩, ⟨some 13, .un .neg (.tmp 12), none⟩, ⟨some 14, .mm true [(.tmp 11), (.tmp 13)], none⟩, ⟨some 4, .mv (.tmp 14), none⟩]) .ret)))
theorem low269 : lowF Tryz.prog [] Tryz.f269 = some (15, lc269.strip, [.tmp 4]) := by kernel_rfl
theorem fn269 : FnOk Tryz.prog 269 15 lc269 [.tmp 4] := ⟨Tryz.call269, [], _, Tryz.func269, low269⟩
/-- slices.IndexFunc[[][2]int,[2]int] -/
def lc270 : LCode :=
  (.seq (.region [⟨some 4, .mv (.const (.int .i64 0)), none⟩]) (.seq (.seq (.region [⟨some 6, .mv (.tmp 0), none⟩, ⟨some 7, .len (.tmp 6), none⟩, ⟨some 8, .mv (.const (.int .i64
    0)), none⟩]) (.block 0 (.loop (.seq (.region [⟨some 9, .bin .lss (.tmp 8) (.tmp 7), none⟩]) (.seq (.cond (.tmp 9) .skip (.exit 0)) (.seq (.block 1 (.seq (.region [⟨some 10, .mv
    (.tmp 8), none⟩, ⟨some 5, .mv (.tmp 10), none⟩]) (.seq (.region [⟨some 11, .mv (.tmp 1), none⟩, ⟨some 12, .mv (.tmp 0), none⟩, ⟨some 13, .mv (.tmp 5), none⟩, ⟨some 14, .idx 2
    (.tmp 12) (.tmp 13), none⟩, ⟨some 15, .load true 2 (.tmp 14), none⟩, ⟨some 16, .call (.tmp 11) [(.tmp 15)], none⟩]) (.cond (.tmp 16) (.seq (.region [⟨some 17, .mv (.tmp 5),
    none⟩, ⟨some 4, .mv (.tmp 17), none⟩]) .ret) .skip)))) (.region [⟨some 18, .bin .add (.tmp 8) (.const (.int .i64 1)), none⟩, ⟨some 8, .mv (.tmp 18), none⟩]))))))) (.seq (.region
    [⟨some 4, .mv (.const (.int .i64 (-1))), none⟩]) .ret)))
theorem low270 : lowF Tryz.prog [] Tryz.f270 = some (19, lc270.strip, [.tmp 4]) := by kernel_rfl
theorem fn270 : FnOk Tryz.prog 270 19 lc270 [.tmp 4] := ⟨Tryz.call270, [], _, Tryz.func270, low270⟩
/-- moonpool/cable.ways -/
def lc271 : LCode :=
  (.seq (.region [⟨some 1, .box (.tmp 0), none⟩, ⟨some 2, .mv (.const .nilFunc), none⟩]) (.seq (.region [⟨some 3, .mkfn 295 [(.tmp 1)], none⟩, ⟨some 2, .mv (.tmp 3), none⟩]) .ret))
theorem low271 : lowF Tryz.prog [] Tryz.f271 = some (4, lc271.strip, [.tmp 2]) := by kernel_rfl
theorem fn271 : FnOk Tryz.prog 271 4 lc271 [.tmp 2] := ⟨Tryz.call271, [], _, Tryz.func271, low271⟩
/-- (moonpool/cable.place).minus -/
def lc272 : LCode :=
  (.seq (.region [⟨some 2, .box (.tmp 0), none⟩, ⟨some 3, .box (.tmp 1), none⟩, ⟨some 4, .alloc [(.int .i64 0), (.int .i64 0)], none⟩]) (.seq (.region [⟨some 5, .idxA 1 2 (.tmp 2)
    (.const (.int .i64 0)), none⟩, ⟨some 6, .load false 1 (.tmp 5), none⟩, ⟨some 7, .idxA 1 2 (.tmp 3) (.const (.int .i64 0)), none⟩, ⟨some 8, .load false 1 (.tmp 7), none⟩, ⟨some
    9, .bin .sub (.tmp 6) (.tmp 8), none⟩, ⟨some 10, .idxA 1 2 (.tmp 2) (.const (.int .i64 1)), none⟩, ⟨some 11, .load false 1 (.tmp 10), none⟩, ⟨some 12, .idxA 1 2 (.tmp 3) (.const
    (.int .i64 1)), none⟩, ⟨some 13, .load false 1 (.tmp 12), none⟩, ⟨some 14, .bin .sub (.tmp 11) (.tmp 13), none⟩, ⟨some 15, .build [(.int .i64 0), (.int .i64 0)] [(0, 1, (.tmp
    9)), (1, 1, (.tmp 14))], none⟩, ⟨none, .store 2 (.tmp 4) (.tmp 15), none⟩]) .ret))
theorem low272 : lowF Tryz.prog [] Tryz.f272 = some (16, lc272.strip, [.cell 4 true 2]) := by kernel_rfl
theorem fn272 : FnOk Tryz.prog 272 16 lc272 [.cell 4 true 2] := ⟨Tryz.call272, [], _, Tryz.func272, low272⟩
/-- (moonpool/cable.place).cross -/
def lc273 : LCode :=
  (.seq (.region [⟨some 2, .box (.tmp 0), none⟩, ⟨some 3, .box (.tmp 1), none⟩, ⟨some 4, .mv (.const (.int .i64 0)), none⟩]) (.seq (.region [⟨some 5, .idxA 1 2 (.tmp 2) (.const
    (.int .i64 0)), none⟩, ⟨some 6, .load false 1 (.tmp 5), none⟩, ⟨some 7, .idxA 1 2 (.tmp 3) (.const (.int .i64 1)), none⟩, ⟨some 8, .load false 1 (.tmp 7), none⟩, ⟨some 9, .bin
    .mul (.tmp 6) (.tmp 8), none⟩, ⟨some 10, .idxA 1 2 (.tmp 2) (.const (.int .i64 1)), none⟩, ⟨some 11, .load false 1 (.tmp 10), none⟩, ⟨some 12, .idxA 1 2 (.tmp 3) (.const (.int
    .i64 0)), none⟩, ⟨some 13, .load false 1 (.tmp 12), none⟩, ⟨some 14, .bin .mul (.tmp 11) (.tmp 13), none⟩, ⟨some 15, .bin .sub (.tmp 9) (.tmp 14), none⟩, ⟨some 4, .mv (.tmp 15),
    none⟩]) .ret))
theorem low273 : lowF Tryz.prog [] Tryz.f273 = some (16, lc273.strip, [.tmp 4]) := by kernel_rfl
theorem fn273 : FnOk Tryz.prog 273 16 lc273 [.tmp 4] := ⟨Tryz.call273, [], _, Tryz.func273, low273⟩
end Go.Pw

set_option linter.unusedVariables false
set_option maxHeartbeats 2000000
set_option maxRecDepth 100000
namespace Go.Pw
open Go Go.Proofs
/-- moonpool/cable.ways$1 -/
def lc295 : LCode :=
  (.seq (.region [⟨some 5, .load false 1 (.tmp 1), none⟩, ⟨some 6, .len (.tmp 5), none⟩, ⟨some 7, .mv (.const (.int .i64 0)), none⟩]) (.block 0 (.loop (.seq (.region [⟨some 8, .bin
    .lss (.tmp 7) (.tmp 6), none⟩]) (.seq (.cond (.tmp 8) .skip (.exit 0)) (.seq (.block 1 (.seq (.region [⟨some 9, .mv (.tmp 7), none⟩, ⟨some 10, .idx 2 (.tmp 5) (.tmp 7), none⟩,
    ⟨some 11, .load true 2 (.tmp 10), none⟩, ⟨some 4, .alloc [(.int .i64 0), (.int .i64 0)], none⟩, ⟨some 3, .mv (.tmp 9), none⟩, ⟨none, .store 2 (.tmp 4) (.tmp 11), none⟩]) (.seq
    (.regionD [⟨some 12, .mv (.tmp 0), none⟩, ⟨some 13, .load true 2 (.tmp 4), none⟩, ⟨some 14, .load false 1 (.tmp 1), none⟩, ⟨some 15, .mv (.tmp 3), none⟩, ⟨some 16, .bin .add
    (.tmp 15) (.const (.int .i64 1)), none⟩, ⟨some 17, .load false 1 (.tmp 1), none⟩, ⟨some 18, .len (.tmp 17), none⟩, ⟨some 19, .bin .rem (.tmp 16) (.tmp 18), none⟩, ⟨some 20, .idx
    2 (.tmp 14) (.tmp 19), none⟩, ⟨some 21, .load true 2 (.tmp 20), none⟩, ⟨some 22, .call (.tmp 12) [(.tmp 13), (.tmp 21)], none⟩, ⟨some 23, .un .not (.tmp 22), none⟩] [0, 0, 0, 0,
    8, 0, 32, 120, 252, 508, 1023, 2047] [0, 1, 2, 3, 4, 5, 6, 7, 8, 9, 10, 11]) (.cond (.tmp 23) .ret .skip)))) (.region [⟨some 24, .bin .add (.tmp 7) (.const (.int .i64 1)),
    none⟩, ⟨some 7, .mv (.tmp 24), none⟩])))))))
theorem low295 : lowF Tryz.prog [] Tryz.f295 = some (25, lc295.strip, []) := by kernel_rfl
theorem fn295 : FnOk Tryz.prog 295 25 lc295 [] := ⟨Tryz.call295, [], _, Tryz.func295, low295⟩
end Go.Pw

set_option linter.unusedSimpArgs false
set_option linter.unusedVariables false
namespace Go.Pw
set_option maxRecDepth 2000
open Go Go.Proofs A1 A2 A3 A4
instance : Mix Tryz.prog := ⟨⟨by kernel_rfl⟩⟩
theorem C46 {n lo hi : Int} : PFD Tryz.prog 46 [vi .i64 n, vi .i64 lo, vi .i64 hi] (vbl (decide (lo ≤ n ∧ n ≤ hi))) := by
  refine pi1 fn46 ?_
  (repeat' first | (refine Owe.same ?_; first | refine Owe.o ?_ | refine Owe.mk ?_ ?_) | (refine Fork.same ?_; (first | refine fkD ?_ ?_ | refine fkN ?_ ?_ | refine fkM ?_ ?_) <;> intro h) | refine MvQ.stay ?_)
  · (refine rqK rfl ?_; (repeat' first | exact rfl | (refine qS ?_; constructor))); simp [*]
  · (refine rqK rfl ?_; (repeat' first | exact rfl | (refine qS ?_; constructor))); simp only [decide_eq_false_iff_not]; omega
theorem C128 {n lo hi : Int} : PFD Tryz.prog 128 [vi .i64 n, vi .i64 lo, vi .i64 hi] (vbl (decide (lo ≤ n ∧ n ≤ hi))) := by
  refine pi1 fn128 ?_
  (repeat' first | (refine Owe.same ?_; first | refine Owe.o ?_ | refine Owe.mk ?_ ?_) | (refine Fork.same ?_; (first | refine fkD ?_ ?_ | refine fkN ?_ ?_ | refine fkM ?_ ?_) <;> intro h) | refine MvQ.stay ?_)
  · (refine rqK rfl ?_; (repeat' first | exact rfl | (refine qS ?_; constructor))); simp [*]
  · (refine rqK rfl ?_; (repeat' first | exact rfl | (refine qS ?_; constructor))); simp only [decide_eq_false_iff_not]; omega
theorem C187 {n m : Int} : (0 ≤ m ∧ m < 4611686018427387904) → PFD Tryz.prog 187 [vi .i64 n, vi .i64 m] (vbl (decide (-m ≤ n ∧ n ≤ m))) := fun h => by
  refine pi1 fn187 ?_
  (repeat' first | (refine Owe.same ?_; first | refine Owe.o ?_ | refine Owe.mk ?_ ?_) | (refine Fork.same ?_; (first | refine fkD ?_ ?_ | refine fkN ?_ ?_ | refine fkM ?_ ?_) <;> intro h) | ((first | refine OpsL.same ?_ | refine OpsDL.same ?_); first | refine pK C128 rfl rfl ?_) | refine MvQ.stay ?_)
  (refine rqK rfl ?_; (repeat' first | exact rfl | (refine qS ?_; constructor)))
theorem C210 {n : Int} : PFD Tryz.prog 210 [vi .i64 n] (vbl (decide (-50 ≤ n ∧ n ≤ 50))) := by
  refine pi1 fn210 ?_
  (repeat' first | (refine Owe.same ?_; first | refine Owe.o ?_ | refine Owe.mk ?_ ?_) | (refine Fork.same ?_; (first | refine fkD ?_ ?_ | refine fkN ?_ ?_ | refine fkM ?_ ?_) <;> intro h) | ((first | refine OpsL.same ?_ | refine OpsDL.same ?_); first | refine pK C187 rfl rfl ?_) | refine MvQ.stay ?_)
  (refine rqK rfl ?_; (repeat' first | exact rfl | (refine qS ?_; constructor)))
theorem C195 {n : Int} : PFD Tryz.prog 195 [vi .i64 n] (vbl (decide (-50 ≤ n ∧ n ≤ 50))) := by
  refine pi1 fn195 ?_
  (repeat' first | (refine Owe.same ?_; first | refine Owe.o ?_ | refine Owe.mk ?_ ?_) | (refine Fork.same ?_; (first | refine fkD ?_ ?_ | refine fkN ?_ ?_ | refine fkM ?_ ?_) <;> intro h) | ((first | refine OpsL.same ?_ | refine OpsDL.same ?_); first | refine pK C46 rfl rfl ?_) | refine MvQ.stay ?_)
  (refine rqK rfl ?_; (repeat' first | exact rfl | (refine qS ?_; constructor)))
theorem C54 {n : Int} : (-4611686018427387904 ≤ n ∧ n ≤ 4611686018427387904) → PFD Tryz.prog 54 [vi .i64 n] (vi .i64 (max n (-n))) := fun h => by
  refine pi1 fn54 ?_
  (repeat' first | (refine Owe.same ?_; first | refine Owe.o ?_ | refine Owe.mk ?_ ?_) | (refine Fork.same ?_; (first | refine fkD ?_ ?_ | refine fkN ?_ ?_ | refine fkM ?_ ?_) <;> intro h) | refine MvQ.stay ?_)
  (refine rqK rfl ?_; (repeat' first | exact rfl | (refine qS ?_; constructor)))
theorem C242 {p : Int × Int} : PFD Tryz.prog 242 [.agg [int p.1, int p.2]] (vbl (decide (isPl p))) := by
  refine pi1 fn242 ?_
  (repeat' first | (refine Owe.same ?_; first | refine Owe.o ?_ | refine Owe.mk ?_ ?_) | (refine Fork.same ?_; (first | refine fkD ?_ ?_ | refine fkN ?_ ?_ | refine fkM ?_ ?_) <;> intro h) | ((first | refine OpsL.same ?_ | refine OpsDL.same ?_); first | refine pK C187 rfl rfl ?_) | refine MvQ.stay ?_)
  · (refine rqK rfl ?_; (repeat' first | exact rfl | (refine qS ?_; constructor))); simp [*]
  · (refine rqK rfl ?_; (repeat' first | exact rfl | (refine qS ?_; constructor))); simp only [decide_eq_false_iff_not]; omega
theorem C241 {p : Int × Int} : PFD Tryz.prog 241 [.agg [int p.1, int p.2]] (vbl (!decide (isPl p))) := by
  refine pi1 fn241 ?_
  (repeat' first | (refine Owe.same ?_; first | refine Owe.o ?_ | refine Owe.mk ?_ ?_) | (refine Fork.same ?_; (first | refine fkD ?_ ?_ | refine fkN ?_ ?_ | refine fkM ?_ ?_) <;> intro h) | ((first | refine OpsL.same ?_ | refine OpsDL.same ?_); first | refine pK C242 rfl rfl ?_) | refine MvQ.stay ?_)
  (refine rqK rfl ?_; (repeat' first | exact rfl | (refine qS ?_; constructor)))
theorem C125 {b : Bool} {e : Int} : PFD Tryz.prog 125 [vbl b, vi .i64 e] (vi .i64 (unb b e)) := by
  refine pi1 fn125 ?_
  (repeat' first | (refine Owe.same ?_; first | refine Owe.o ?_ | refine Owe.mk ?_ ?_) | (refine Fork.same ?_; (first | refine fkD ?_ ?_ | refine fkN ?_ ?_ | refine fkM ?_ ?_) <;> intro h) | refine MvQ.stay ?_)
  · (refine rqK rfl ?_; (repeat' first | exact rfl | (refine qS ?_; constructor))); simp [unb, *]
  · (refine rqK rfl ?_; (repeat' first | exact rfl | (refine qS ?_; constructor))); simp [unb, *]
theorem C124 {l : List Int} : l.length < 4611686018427387904 → PFD Tryz.prog 124 [.c (ints l)] (vi .i64 (fstE l)) := fun hl => by
  refine pi1 fn124 ?_
  (repeat' first | (refine Owe.same ?_; first | refine Owe.o ?_ | refine Owe.mk ?_ ?_) | (refine Fork.same ?_; (first | refine fkD ?_ ?_ | refine fkN ?_ ?_ | refine fkM ?_ ?_) <;> intro h) | refine MvQ.stay ?_)
  refine Sat.lp0 (fun k : Nat => [(7, vi .i64 k), (6, vi .i64 l.length), (5, .c (ints l))]) (fun k => k ≤ l.length ∧ fstE l = fstE (l.drop k)) (fun k => l.length - k) 0 ⟨Nat.zero_le _, rfl⟩ (by ((first | refine qen ?_ | refine qvs ?_ | refine qeq ?_ | refine qst ?_ | refine qv ?_ | refine qc ?_ | refine qe ?_ | refine qcs ?_ | skip); (repeat' first | exact rfl | (refine qS ?_; constructor)))) ?_
  intro k hk
  (repeat' first | (refine Owe.same ?_; first | refine Owe.o ?_ | refine Owe.mk ?_ ?_) | (refine Fork.same ?_; (first | refine fkD ?_ ?_ | refine fkN ?_ ?_ | refine fkM ?_ ?_) <;> intro h) | refine MvQ.stay ?_)
  · simp only [Int.toNat_natCast] at h
    (refine rqK rfl ?_; (repeat' first | exact rfl | (refine qS ?_; constructor)))
    rw [hk.2, fstE_drop l k (by omega), if_neg h, Int.toNat_natCast]
  · simp only [Int.toNat_natCast] at h
    refine again0 (k + 1) ⟨by omega, ?_⟩ (by omega) (by ((first | refine qen ?_ | refine qvs ?_ | refine qeq ?_ | refine qst ?_ | refine qv ?_ | refine qc ?_ | refine qe ?_ | refine qcs ?_ | skip); (repeat' first | exact rfl | (refine qS ?_; constructor))))
    rw [hk.2, fstE_drop l k (by omega), if_pos h]
  · (refine rqK rfl ?_; (repeat' first | exact rfl | (refine qS ?_; constructor)))
    rw [hk.2, List.drop_of_length_le (by omega)]; rfl
end Go.Pw

set_option linter.unusedSimpArgs false
set_option linter.unusedVariables false
set_option maxHeartbeats 1000000
namespace Go.Pw
open Go.RowKit Go.Lib
set_option maxRecDepth 2000
open Go Go.Proofs A1 A2 A3 A4
theorem jn_len {c : UInt8} {M : Nat} : ∀ {l : List By}, (∀ x ∈ l, x.length ≤ M) → (jnG c l).length ≤ l.length * (M + 1)
  | [], _ => by simp [jnG]
  | [x], h => by have := h x (by simp); simp [jnG]; omega
  | x :: y :: r, h => by
    have h1 := jn_len (c := c) (M := M) (l := y :: r) (fun z hz => h z (List.mem_cons_of_mem _ hz))
    have h2 := h x (by simp)
    rw [jn_cons (by simp), List.length_append, List.length_cons, List.length_cons, Nat.add_mul, Nat.one_mul]
    omega
/-- The words of numbers. -/
abbrev wdL (l : List Int) : List By := l.map itoa
def wdS (l : List Int) : By := jnG 32 (wdL l)
theorem wd_len {l : List Int} (h : ∀ n ∈ l, i64P n) : (wdS l).length ≤ l.length * 22 := by
  have := jn_len (c := 32) (M := 21) (l := wdL l) (fun x hx => by
    obtain ⟨n, hn, rfl⟩ := List.mem_map.1 hx
    exact itoa_length_le n (h n hn).1 (h n hn).2)
  rw [List.length_map] at this; exact this
theorem tk1 {α : Type} {l : List α} {k : Nat} (d : α) (h : k < l.length) : l.take (k + 1) = l.take k ++ [l.getD k d] := by
  rw [List.take_add_one, List.getElem?_eq_getElem h, List.getD_eq_getElem?_getD, List.getElem?_eq_getElem h]; rfl
theorem C92 {l : List Int} : (l.length ≤ 1000 ∧ ∀ n ∈ l, i64P n) → PFD Tryz.prog 92 [.c (ints l)] (sv (wdS l)) := fun ⟨hl, h⟩ => by
  refine pi1 fn92 ?_
  (repeat' first | (refine Owe.same ?_; first | refine Owe.o ?_ | refine Owe.mk ?_ ?_) | (refine Fork.same ?_; (first | refine fkD ?_ ?_ | refine fkN ?_ ?_ | refine fkM ?_ ?_) <;> intro h) | refine MvQ.stay ?_)
  refine Sat.nilS 3 9 1 (fun i => rS (([] : List By).getD i [])) rfl ?_
  refine Sat.lp (fun k : Nat => ⟨[(8, vi .i64 k), (7, vi .i64 l.length), (6, .c (ints l)), (3, .c (.ms 0 (wdL (l.take k)).length))], [(0, rowv 9 1 rS [] (wdL (l.take k)))], 1⟩)
    (fun k => k ≤ l.length) (fun k => l.length - k) 0 [0] (Nat.zero_le _) ?_ ?_
  · (refine qis ?_ ?_ <;> (repeat' first | exact rfl | (refine qS ?_; constructor)))
  · intro k hk
    refine Fork.dec (fun hlt => ?_) (fun hlt => ?_)
    · have hlt : k < l.length := by omega
      have hi : i64P (l.getD (k : Int).toNat 0) := h _ (by
        show l.getD k 0 ∈ l
        rw [List.getD_eq_getElem?_getD, List.getElem?_eq_getElem hlt]; exact List.getElem_mem ..)
      have h84 := C181 hi
      have ht : wdL (l.take (k + 1)) = wdL (l.take k) ++ [itoa (l.getD k 0)] := by
        rw [tk1 0 hlt, wdL, List.map_append]; rfl
      have hk1 : (wdL (l.take k)).length ≤ 1000 := by rw [List.length_map, List.length_take]; omega
      (repeat' first | (refine Owe.same ?_; first | refine Owe.o ?_ | refine Owe.mk ?_ ?_) | (refine Fork.same ?_; (first | refine fkY ?_ | refine fkF ?_ | ((first | refine fkD ?_ ?_ | refine fkN ?_ ?_ | refine fkM ?_ ?_) <;> intro h))) | ((first | refine OpsL.same ?_ | refine OpsDL.same ?_); first | refine oK h84 rfl rfl rfl ?_) | refine MvQ.stay ?_)
      refine again (k + 1) [1] hlt (by omega) ?_
      (refine qis ?_ ?_ <;> (repeat' first | exact rfl | (refine qS ?_; constructor)))
      · rw [ht, List.length_append]; rfl
      · exact ⟨_, rfl, ht⟩
    · have hk1 : k = l.length := by omega
      have hw : wdL (l.take k) = wdL l := by rw [List.take_of_length_le (by omega)]
      have hj := wd_len h
      have hll : (wdL l).length = l.length := List.length_map ..
      have h42 := C93 (l := wdL l) (c := 32) ⟨by omega, by show (wdS l).length ≤ _; omega⟩
      rw [hw]
      (repeat' first | (refine Owe.same ?_; first | refine Owe.o ?_ | refine Owe.mk ?_ ?_) | (refine Fork.same ?_; (first | refine fkD ?_ ?_ | refine fkN ?_ ?_ | refine fkM ?_ ?_) <;> intro h))
      refine MvQ.frz 3 _ rfl rfl (Nat.le_refl _) ?_
      (repeat' first | (refine Owe.same ?_; first | refine Owe.o ?_ | refine Owe.mk ?_ ?_) | (refine Fork.same ?_; (first | refine fkY ?_ | refine fkF ?_ | ((first | refine fkD ?_ ?_ | refine fkN ?_ ?_ | refine fkM ?_ ?_) <;> intro h))) | ((first | refine OpsL.same ?_ | refine OpsDL.same ?_); first | refine oK h42 rfl rfl rfl ?_) | refine MvQ.stay ?_)
      (refine rqK rfl ?_; (repeat' first | exact rfl | (refine qS ?_; constructor)))
/-- Devices as a string. -/
abbrev Tr3 := Int × Int × Int
abbrev dvW (d : Tr3) : By := wdS [d.1, d.2.1, d.2.2]
abbrev w64P (d : Tr3) : Prop := i64P d.1 ∧ i64P d.2.1 ∧ i64P d.2.2
theorem i64_3 {a b c : Int} (h1 : i64P a) (h2 : i64P b) (h3 : i64P c) : ∀ n ∈ [a, b, c], i64P n := fun n hn => by
  simp only [List.mem_cons, List.not_mem_nil, or_false] at hn
  rcases hn with rfl | rfl | rfl <;> assumption
theorem C41_3 {a b c : Int} (h1 : i64P a) (h2 : i64P b) (h3 : i64P c) : PFD Tryz.prog 92 [.c (ints [a, b, c])] (sv (wdS [a, b, c])) := C92 ⟨by simp, i64_3 h1 h2 h3⟩
theorem cutB_bs {l : By} {i j : Nat} : cutB (bs l) i j = bs ((l.take j).drop i) := by simp [cutB, bs]
end Go.Pw

set_option linter.unusedSimpArgs false
set_option linter.unusedVariables false
set_option maxHeartbeats 1000000
set_option maxRecDepth 20000
namespace Go.Pw
open Go.RowKit Go.Lib
set_option maxRecDepth 2000
open Go Go.Proofs A1 A2 A3 A4
/-- Digits behind digits: of 0 none. -/
def dd0 (m : Int) : By := if m = 0 then [] else decDigits m.natAbs
theorem dd0_step {m : Int} (h : m ≠ 0) : dd0 m = dd0 (m.tdiv 10) ++ [UInt8.ofNat (48 + (m.tmod 10).natAbs)] := by
  have e1 : (m.tdiv 10).natAbs = m.natAbs / 10 := Int.natAbs_tdiv m 10
  have e2 : (m.tmod 10).natAbs = m.natAbs % 10 := Int.natAbs_tmod m 10
  rw [dd0, if_neg h, e2]
  by_cases h1 : m.natAbs < 10
  · have : m.tdiv 10 = 0 := by omega
    rw [this, dd0, if_pos rfl, decDigits_one h1, Nat.mod_eq_of_lt h1]; rfl
  · have : m.tdiv 10 ≠ 0 := by omega
    rw [dd0, if_neg this, e1, dec_big h1]
theorem u8w {x : Int} (h0 : 0 ≤ x) (h1 : x < 256) : IntKind.u8.wrap x = x := by
  have e : x % 256 = x := Int.emod_eq_of_lt h0 h1
  show (if (false && decide (x % 256 ≥ 2 ^ 7)) = true then x % 256 - 256 else x % 256) = x
  rw [Bool.false_and, if_neg (by decide), e]
theorem C115 {n : Int} : i64P n → PFD Tryz.prog 115 [vi .i64 n] (sv (itoa n)) := fun hn => by
  have hD : (decDigits n.natAbs).length ≤ 21 := by
    have := itoa_length_le n hn.1 hn.2
    by_cases h : n < 0
    · rw [itoa_neg h, List.length_cons] at this; omega
    · rw [itoa_nn (by omega), show n.toNat = n.natAbs by omega] at this; omega
  refine pi1 fn115 ?_
  (repeat' first | (refine Owe.same ?_; first | refine Owe.o ?_ | refine Owe.mk ?_ ?_) | (refine Fork.same ?_; (first | refine fkD ?_ ?_ | refine fkN ?_ ?_ | refine fkM ?_ ?_) <;> intro h) | refine MvQ.stay ?_)
  · (refine rqK rfl ?_; (repeat' first | exact rfl | (refine qS ?_; constructor)))
    refine VEq.str ?_
    rw [h, itoa_nn (by decide)]
    show _ = bs (decDigits 0)
    rw [dec0]
  · skip
    have hsg := h
    refine Sat.lp (fun st : Int × By => ⟨[(0, vi .i64 st.1), (3, sv st.2), (4, sv [45])], [], 0⟩)
      (fun st : Int × By => i64P st.1 ∧ dd0 st.1 ++ st.2 = decDigits n.natAbs) (fun st : Int × By => st.1.natAbs) (n, []) [] ⟨hn, by rw [dd0, if_neg (by omega), List.append_nil]⟩ ?_ ?_
    · (refine qis ?_ ?_ <;> (repeat' first | exact rfl | (refine qS ?_; constructor)))
    · rintro ⟨m, t⟩ ⟨hm, ht⟩
      simp only at hm ht
      have e2 : (m.tmod 10).natAbs = m.natAbs % 10 := Int.natAbs_tmod m 10
      have e1 : (m.tdiv 10).natAbs = m.natAbs / 10 := Int.natAbs_tdiv m 10
      have hb1 : -9 ≤ m.tmod 10 ∧ m.tmod 10 ≤ 9 := by omega
      have htl : t.length ≤ 21 := by
        have := congrArg List.length ht
        rw [List.length_append] at this; omega
      have hu : IntKind.u8.wrap (48 + max (m.tmod 10) (-m.tmod 10)) = 48 + max (m.tmod 10) (-m.tmod 10) := u8w (by omega) (by omega)
      have hs2 : (bs t).size = t.length := bs_size t
      have h133 := C54 (n := m.tmod 10) (by omega)
      (repeat' first | (refine Owe.same ?_; first | refine Owe.o ?_ | refine Owe.mk ?_ ?_) | (refine Fork.same ?_; (first | refine fkD ?_ ?_ | refine fkN ?_ ?_ | refine fkM ?_ ?_) <;> intro h) | ((first | refine OpsL.same ?_ | refine OpsDL.same ?_); first | refine pK h133 rfl rfl ?_) | refine MvQ.stay ?_)
      · rw [hu]
        refine ⟨⟨⟨⟨?_, trivial⟩, trivial⟩, ?_⟩, ?_⟩
        · exact ⟨by omega, by omega⟩
        · omega
        · show ((1 + (bs t).size : Nat) : Int) ≤ _
          omega
      · have h : ¬ m = 0 := h
        refine again (m.tdiv 10, UInt8.ofNat (48 + (m.tmod 10).natAbs) :: t) [] ⟨by constructor <;> omega, by rw [← ht, dd0_step h]; simp⟩ (by show (m.tdiv 10).natAbs < m.natAbs; omega) ?_
        (refine qis ?_ ?_ <;> (repeat' first | exact rfl | (refine qS ?_; constructor)))
        refine VEq.str ?_
        rw [hu, show (48 + max (m.tmod 10) (-m.tmod 10)).toNat = 48 + (m.tmod 10).natAbs by omega]
        simp [bs]
      · show (((bs ([45] : By)).size + (bs t).size : Nat) : Int) ≤ 9223372036854775807
        have h3 : (bs ([45] : By)).size ≤ 1 := by decide
        omega
      · have h : m = 0 := h
        subst h
        (refine rqK rfl ?_; (repeat' first | exact rfl | (refine qS ?_; constructor)))
        refine VEq.str ?_
        rw [dd0, if_pos rfl, List.nil_append] at ht
        subst ht
        rw [itoa_neg hsg]
        simp [bs]
  · have hsg := h
    refine Sat.lp (fun st : Int × By => ⟨[(0, vi .i64 st.1), (3, sv st.2), (4, sv [])], [], 0⟩)
      (fun st : Int × By => i64P st.1 ∧ dd0 st.1 ++ st.2 = decDigits n.natAbs) (fun st : Int × By => st.1.natAbs) (n, []) [] ⟨hn, by rw [dd0, if_neg (by omega), List.append_nil]⟩ ?_ ?_
    · (refine qis ?_ ?_ <;> (repeat' first | exact rfl | (refine qS ?_; constructor)))
    · rintro ⟨m, t⟩ ⟨hm, ht⟩
      simp only at hm ht
      have e2 : (m.tmod 10).natAbs = m.natAbs % 10 := Int.natAbs_tmod m 10
      have e1 : (m.tdiv 10).natAbs = m.natAbs / 10 := Int.natAbs_tdiv m 10
      have hb1 : -9 ≤ m.tmod 10 ∧ m.tmod 10 ≤ 9 := by omega
      have htl : t.length ≤ 21 := by
        have := congrArg List.length ht
        rw [List.length_append] at this; omega
      have hu : IntKind.u8.wrap (48 + max (m.tmod 10) (-m.tmod 10)) = 48 + max (m.tmod 10) (-m.tmod 10) := u8w (by omega) (by omega)
      have hs2 : (bs t).size = t.length := bs_size t
      have h133 := C54 (n := m.tmod 10) (by omega)
      (repeat' first | (refine Owe.same ?_; first | refine Owe.o ?_ | refine Owe.mk ?_ ?_) | (refine Fork.same ?_; (first | refine fkD ?_ ?_ | refine fkN ?_ ?_ | refine fkM ?_ ?_) <;> intro h) | ((first | refine OpsL.same ?_ | refine OpsDL.same ?_); first | refine pK h133 rfl rfl ?_) | refine MvQ.stay ?_)
      · rw [hu]
        refine ⟨⟨⟨⟨?_, trivial⟩, trivial⟩, ?_⟩, ?_⟩
        · exact ⟨by omega, by omega⟩
        · omega
        · show ((1 + (bs t).size : Nat) : Int) ≤ _
          omega
      · have h : ¬ m = 0 := h
        refine again (m.tdiv 10, UInt8.ofNat (48 + (m.tmod 10).natAbs) :: t) [] ⟨by constructor <;> omega, by rw [← ht, dd0_step h]; simp⟩ (by show (m.tdiv 10).natAbs < m.natAbs; omega) ?_
        (refine qis ?_ ?_ <;> (repeat' first | exact rfl | (refine qS ?_; constructor)))
        refine VEq.str ?_
        rw [hu, show (48 + max (m.tmod 10) (-m.tmod 10)).toNat = 48 + (m.tmod 10).natAbs by omega]
        simp [bs]
      · show (((bs ([] : By)).size + (bs t).size : Nat) : Int) ≤ 9223372036854775807
        have h3 : (bs ([] : By)).size ≤ 1 := by decide
        omega
      · have h : m = 0 := h
        subst h
        (refine rqK rfl ?_; (repeat' first | exact rfl | (refine qS ?_; constructor)))
        refine VEq.str ?_
        rw [dd0, if_pos rfl, List.nil_append] at ht
        subst ht
        rw [itoa_nn (by omega), show n.toNat = n.natAbs by omega]
        simp [bs]
/-- A fact that is kept out of sight. -/
structure Hd (p : Prop) : Prop where
  h : p
theorem wd_step {l : List Int} {k : Nat} (h : k < l.length) : wdS (l.take (k + 1)) = if k = 0 then itoa (l.getD k 0) else wdS (l.take k) ++ 32 :: itoa (l.getD k 0) := by
  rw [wdS, wdL, tk1 0 h, List.map_append]
  by_cases h0 : k = 0
  · subst h0; rw [if_pos rfl]; rfl
  · rw [if_neg h0]
    refine jn_app (l := (l.take k).map itoa) (fun e => ?_)
    have := congrArg List.length e
    rw [List.length_map, List.length_take, List.length_nil] at this; omega
theorem C103 {l : List Int} : (l.length ≤ 1000 ∧ ∀ n ∈ l, i64P n) → PFD Tryz.prog 103 [.c (ints l)] (sv (wdS l)) := fun ⟨hl, h⟩ => by
  refine pi1 fn103 ?_
  (repeat' first | (refine Owe.same ?_; first | refine Owe.o ?_ | refine Owe.mk ?_ ?_) | (refine Fork.same ?_; (first | refine fkD ?_ ?_ | refine fkN ?_ ?_ | refine fkM ?_ ?_) <;> intro h) | refine MvQ.stay ?_)
  refine Sat.lp (fun k : Nat => ⟨[(0, .c (ints l)), (3, sv (wdS (l.take k))), (4, vi .i64 k)], [], 0⟩)
    (fun k => k ≤ l.length) (fun k => l.length - k) 0 [] (Nat.zero_le _) ?_ ?_
  · (refine qis ?_ ?_ <;> (repeat' first | exact rfl | (refine qS ?_; constructor)))
  · intro k hk
    refine Fork.dec (fun hlt => ?_) (fun hlt => ?_)
    · have hlt : k < l.length := by omega
      have hi : i64P (l.getD (k : Int).toNat 0) := h _ (getD_mem 0 hlt)
      have h93 := C115 hi
      have hst := wd_step hlt
      have hz : (bs (wdS (l.take k))).size ≤ 22000 := by
        have := wd_len (l := l.take k) (fun n hn => h n (List.mem_of_mem_take hn))
        rw [bs_size]; rw [List.length_take] at this; omega
      have hz2 : (bs (itoa (l.getD (k : Int).toNat 0))).size ≤ 21 := by
        rw [bs_size]; exact itoa_length_le _ hi.1 hi.2
      have hs1 : (ByteArray.mk #[32]).size = 1 := rfl
      generalize hW : wdS (l.take k) = W at hst hz
      generalize hI : itoa (l.getD (k : Int).toNat 0) = I at h93 hz2
      have hI : itoa (l.getD k 0) = I := hI
      rw [hI] at hst
      have hst := Hd.mk hst
      have hI := Hd.mk hI
      have hW := Hd.mk hW
      have hlk := hlt
      have ho1 : (((bs W).size + (ByteArray.mk #[32]).size : Nat) : Int) ≤ 9223372036854775807 := by omega
      have ho2 : (((bs W).size + (bs I).size : Nat) : Int) ≤ 9223372036854775807 := by omega
      have ho3 : (((bs (W ++ [32])).size + (bs I).size : Nat) : Int) ≤ 9223372036854775807 := by
        have : (bs (W ++ [32])).size = (bs W).size + 1 := by rw [bs_size, bs_size]; simp
        omega
      (repeat' first | (refine Owe.same ?_; refine Owe.mk ?_ ?_) | (refine Fork.same ?_; (first | refine fkD ?_ ?_ | refine fkN ?_ ?_ | refine fkM ?_ ?_) <;> intro h) | ((first | refine OpsL.same ?_ | refine OpsDL.same ?_); first | refine oK h93 rfl rfl rfl ?_) | refine MvQ.stay ?_)
      · exact ho1
      · omega
      · exact ho3
      · clear hi ho1 ho2 ho3; exact ⟨by omega, by omega⟩
      · refine again (k + 1) [] hlt (by omega) ?_
        (refine qis ?_ ?_ <;> (repeat' first | exact rfl | (refine qS ?_; constructor)))
        refine VEq.str ?_
        rw [hst.h, if_neg (by omega)]
        simp [bs]
      · omega
      · exact ho2
      · clear hi ho1 ho2 ho3; exact ⟨by omega, by omega⟩
      · refine again (k + 1) [] hlt (by omega) ?_
        (refine qis ?_ ?_ <;> (repeat' first | exact rfl | (refine qS ?_; constructor)))
        refine VEq.str ?_
        have hk0 : k = 0 := by omega
        rw [hst.h, if_pos hk0]
        have hW := hW.h
        rw [hk0, List.take_zero] at hW
        subst hW
        rfl
    · have hk1 : k = l.length := by omega
      have hw : wdS (l.take k) = wdS l := by rw [List.take_of_length_le (by omega)]
      rw [hw]
      (repeat' first | (refine Owe.same ?_; first | refine Owe.o ?_ | refine Owe.mk ?_ ?_) | (refine Fork.same ?_; (first | refine fkD ?_ ?_ | refine fkN ?_ ?_ | refine fkM ?_ ?_) <;> intro h) | refine MvQ.stay ?_)
      (refine rqK rfl ?_; (repeat' first | exact rfl | (refine qS ?_; constructor)))
end Go.Pw

set_option linter.unusedSimpArgs false
set_option linter.unusedVariables false
set_option maxHeartbeats 1000000
namespace Go.Pw
open Go.RowKit Go.Lib
set_option maxRecDepth 2000
open Go Go.Proofs A1 A2 A3 A4
theorem drop_cons' {s : By} {k : Nat} (h : k < s.length) : s.drop k = s.getD k 0 :: s.drop (k + 1) := by
  rw [List.drop_eq_getElem_cons h, List.getD_eq_getElem?_getD, List.getElem?_eq_getElem h]; rfl
theorem C101 {s : By} {c : UInt8} : s.length ≤ 1000000 → PFD Tryz.prog 101 [sv s, vi .u8 c.toNat] (.c (sts (cutG c [] s))) := fun hs => by
  have hsz : (bs s).size = s.length := bs_size s
  refine pi1 fn101 ?_
  (repeat' first | (refine Owe.same ?_; first | refine Owe.o ?_ | refine Owe.mk ?_ ?_) | (refine Fork.same ?_; (first | refine fkD ?_ ?_ | refine fkN ?_ ?_ | refine fkM ?_ ?_) <;> intro h) | refine MvQ.stay ?_)
  refine Sat.nilS 5 9 1 (fun i => rS (([] : List By).getD i [])) rfl ?_
  refine Sat.lp (fun st : Nat × Nat × List By => ⟨[(0, sv s), (1, vi .u8 c.toNat), (5, .c (.ms 0 st.2.2.length)), (6, vi .i64 st.2.1), (7, vi .i64 st.1)], [(0, rowv 9 1 rS [] st.2.2)], 1⟩)
    (fun st : Nat × Nat × List By => (st.1 ≤ s.length ∧ st.2.1 ≤ st.1 ∧ st.2.2.length ≤ st.1) ∧ Hd (cutG c [] s = st.2.2 ++ cutG c ((s.take st.1).drop st.2.1) (s.drop st.1))) (fun st : Nat × Nat × List By => s.length - st.1) (0, 0, []) [0] ⟨by simp, ⟨by simp⟩⟩ ?_ ?_
  · (refine qis ?_ ?_ <;> (repeat' first | exact rfl | (refine qS ?_; constructor)))
  · rintro ⟨k, fr, out⟩ ⟨⟨hk, hfr, hout⟩, hc⟩
    simp only at hk hfr hout hc
    refine Fork.dec (fun hlt => ?_) (fun hlt => ?_)
    · have hlt : k < s.length := by have : (k : Int) < (bs s).size := hlt; omega
      have hcc := hc.h
      rw [drop_cons' hlt, cutG] at hcc
      (repeat' first | (refine Owe.same ?_; first | refine Owe.o ?_ | refine Owe.mk ?_ ?_) | (refine Fork.same ?_; (first | refine fkD ?_ ?_ | refine fkN ?_ ?_ | refine fkM ?_ ?_) <;> intro h) | refine MvQ.stay ?_)
      · have h : ((s.getD (k : Int).toNat 0).toNat : Int) = c.toNat := h
        have hx : s.getD k 0 = c := UInt8.toNat_inj.1 (by have h : ((s.getD k 0).toNat : Int) = c.toNat := h; omega)
        rw [if_pos hx] at hcc
        refine again (k + 1, k + 1, out ++ [(s.take k).drop fr]) [1] ⟨⟨hlt, Nat.le_refl _, by simp; omega⟩, ⟨by
          show cutG c [] s = (out ++ [(s.take k).drop fr]) ++ cutG c ((s.take (k + 1)).drop (k + 1)) (s.drop (k + 1))
          rw [List.drop_of_length_le (by rw [List.length_take]; omega : (s.take (k + 1)).length ≤ k + 1), hcc]; simp⟩⟩ (by show s.length - (k + 1) < s.length - k; omega) ?_
        (refine qis ?_ ?_ <;> (repeat' first | exact rfl | (refine qS ?_; constructor)))
        · simp
        · exact ⟨(s.take k).drop fr, congrArg (fun z => [D.v (.string z)]) cutB_bs, rfl⟩
      · have hx : ¬ s.getD k 0 = c := fun e => h (by show ((s.getD k 0).toNat : Int) = c.toNat; rw [e])
        rw [if_neg hx] at hcc
        refine again (k + 1, fr, out) [0] ⟨⟨hlt, by show fr ≤ k + 1; omega, by show out.length ≤ k + 1; omega⟩, ⟨by
          rw [hcc]
          have : ((s.take (k + 1)).drop fr) = (s.take k).drop fr ++ [s.getD k 0] := by
            rw [tk1 0 hlt, List.drop_append_of_le_length (by rw [List.length_take]; omega)]
          show _ = out ++ cutG c ((s.take (k + 1)).drop fr) (s.drop (k + 1))
          rw [this]⟩⟩ (by show s.length - (k + 1) < s.length - k; omega) ?_
        (refine qis ?_ ?_ <;> (repeat' first | exact rfl | (refine qS ?_; constructor)))
    · have hk1 : k = s.length := by have : ¬ (k : Int) < (bs s).size := hlt; omega
      subst hk1
      have hcc := hc.h
      rw [List.drop_length, List.take_length, cutG] at hcc
      (repeat' first | (refine Owe.same ?_; first | refine Owe.o ?_ | refine Owe.mk ?_ ?_) | (refine Fork.same ?_; (first | refine fkD ?_ ?_ | refine fkN ?_ ?_ | refine fkM ?_ ?_) <;> intro h) | refine MvQ.stay ?_)
      refine rqF 0 _ rfl rfl rfl ?_; (repeat' first | exact rfl | (refine qS ?_; constructor))
      exact ⟨s.drop fr, rfl, hcc⟩
end Go.Pw

set_option linter.unusedSimpArgs false
set_option linter.unusedVariables false
set_option maxHeartbeats 1000000
namespace Go.Pw
open Go.RowKit Go.Lib
set_option maxRecDepth 2000
open Go Go.Proofs A1 A2 A3 A4
theorem numV_pos {s : By} {d : Int} (h : s.head? ≠ some 45) : numV s d = if dgOk s d (s.length = 1) then some (dgV 0 s : Int) else none := by
  rw [numV, if_neg h]
theorem u8_ne {a b : UInt8} (h : a ≠ b) : (a.toNat : Int) ≠ b.toNat := fun e => h (UInt8.toNat_inj.1 (by omega))
theorem dg_tk {r : By} {k : Nat} {d : Int} (hd : d ≤ 18) (hk : (k : Int) ≤ d) (h : ∀ b ∈ r.take k, isDg b) : dgV 0 (r.take k) < 1000000000000000000 := by
  have h1 := dgV_lt (r.take k) 0 h
  have h2 := pow18 (k := (r.take k).length) hd (by rw [List.length_take]; omega)
  omega
theorem dg_step {r : By} {k : Nat} (h : k < r.length) : dgV 0 (r.take (k + 1)) = 10 * dgV 0 (r.take k) + ((r.getD k 0).toNat - 48) := by
  rw [tk1 0 h, dgV_app]
theorem C194 {s : By} {d : Int} : (s.length ≤ 1000000 ∧ d ≤ 18) → PFD Tryz.prog 194 [sv s, vi .i64 d] (.tup [vi .i64 ((numV s d).getD 0), vbl (numV s d).isSome]) := fun ⟨hs, hd⟩ => by
  cases s with
  | nil =>
    have e : numV [] d = none := by rw [numV_pos (by simp), if_neg (fun h => h.1 rfl)]
    have hsz : (bs []).size = 0 := rfl
    rw [e]
    refine pi2 fn194 ?_
    (repeat' first | (refine Owe.same ?_; first | refine Owe.o ?_ | refine Owe.mk ?_ ?_) | (refine Fork.same ?_; (first | refine fkY ?_ | refine fkF ?_ | ((first | refine fkD ?_ ?_ | refine fkN ?_ ?_ | refine fkM ?_ ?_) <;> intro h))) | ((first | refine OpsL.same ?_ | refine OpsDL.same ?_); first | refine oK C46 rfl rfl rfl ?_) | refine MvQ.stay ?_)
    (refine rqK rfl ?_; (repeat' first | exact rfl | (refine qS ?_; constructor)))
  | cons b r =>
    by_cases hb : b = 45
    · subst hb
      rw [numV_neg]
      have hz : (bs (45 :: r)).size = r.length + 1 := bs_size _
      have hrl : r.length + 1 ≤ 1000000 := hs
      have h0 : (((bs (45 :: r)).data.toList.getD (Int.toNat 0) 0).toNat : Int) = 45 := rfl
      by_cases hok : r ≠ [] ∧ (r.length : Int) ≤ d ∧ (r.head? = some 48 → False)
      · have hne : 0 < r.length := List.length_pos_iff.2 hok.1
        have hle := hok.2.1
        have h48 : ((bs (45 :: r)).data.toList.getD (Int.toNat 1) 0).toNat ≠ 48 := by
          obtain ⟨x, q, rfl⟩ : ∃ x q, r = x :: q := by cases r with | nil => exact absurd rfl hok.1 | cons x q => exact ⟨x, q, rfl⟩
          have hx : x ≠ 48 := fun e => hok.2.2 (by rw [e]; rfl)
          have := u8_ne hx
          show x.toNat ≠ 48
          have e48 : (48 : UInt8).toNat = 48 := rfl
          rw [e48] at this; omega
        have hRl : r.length = r.length := rfl
        refine pi2 fn194 ?_
        (repeat' first | (refine Owe.same ?_; first | refine Owe.o ?_ | refine Owe.mk ?_ ?_) | (refine Fork.same ?_; (first | refine fkY ?_ | refine fkF ?_ | ((first | refine fkD ?_ ?_ | refine fkN ?_ ?_ | refine fkM ?_ ?_) <;> intro h))) | ((first | refine OpsL.same ?_ | refine OpsDL.same ?_); first | refine oK C46 rfl rfl rfl ?_) | refine MvQ.stay ?_)
        refine Sat.lp (fun k : Nat => ⟨[(0, sv (45 :: r)), (6, vi .i64 1), (7, vi .i64 (dgV 0 (r.take k) : Int)), (8, vi .i64 (1 + (k : Int)))], [], 0⟩)
          (fun k => k ≤ r.length ∧ Hd (∀ x ∈ r.take k, isDg x)) (fun k => r.length - k) 0 [] ⟨Nat.zero_le _, ⟨by simp⟩⟩ ?_ ?_
        · (refine qis ?_ ?_ <;> (repeat' first | exact rfl | (refine qS ?_; constructor)))
        · rintro k ⟨hk, hdg⟩
          have hV := dg_tk (r := r) (k := k) hd (by omega) hdg.h
          refine Fork.dec (fun hlt => ?_) (fun hlt => ?_)
          · have hlt : k < r.length := by omega
            have hst := dg_step hlt
            have hx0 := (r.getD k 0).toNat_lt
            generalize hX : (r.getD k 0).toNat = X at hst hx0
            have hg : (bs (45 :: r)).data.toList.getD ((1 : Int) + (k : Int)).toNat 0 = r.getD k 0 := by
              rw [show ((1 : Int) + (k : Int)).toNat = k + 1 by omega]; rfl
            have hgX : (((bs (45 :: r)).data.toList.getD ((1 : Int) + (k : Int)).toNat 0).toNat : Int) = X := by rw [hg, hX]
            by_cases hdx : 48 ≤ X ∧ X ≤ 57
            · have hw8 : IntKind.u8.wrap (((bs (45 :: r)).data.toList.getD ((1 : Int) + (k : Int)).toNat 0).toNat - 48) = (X : Int) - 48 := by rw [hgX]; exact u8w (by omega) (by omega)
              have hdg1 : Hd (∀ x ∈ r.take (k + 1), isDg x) := ⟨fun x hb => by
                rw [tk1 0 hlt, List.mem_append, List.mem_singleton] at hb
                rcases hb with hb | hb
                · exact hdg.h x hb
                · subst hb; show 48 ≤ (r.getD k 0).toNat ∧ (r.getD k 0).toNat ≤ 57; rw [hX]; exact hdx⟩
              have hV1 := dg_tk (r := r) (k := k + 1) hd (by omega) hdg1.h
              rw [hst] at hV1
              (repeat' first | (refine Owe.same ?_; first | refine Owe.o ?_ | refine Owe.mk ?_ ?_) | (refine Fork.same ?_; (first | refine fkY ?_ | refine fkF ?_ | ((first | refine fkD ?_ ?_ | refine fkN ?_ ?_ | refine fkM ?_ ?_) <;> intro h))) | ((first | refine OpsL.same ?_ | refine OpsDL.same ?_); first | refine oK C46 rfl rfl rfl ?_) | refine MvQ.stay ?_)
              · rw [hw8]
                simp only [R64, and_true]
                omega
              · refine again (k + 1) [] ⟨hlt, hdg1⟩ (by omega) ?_
                (refine qis ?_ ?_ <;> (repeat' first | exact rfl | (refine qS ?_; constructor)))
                rw [hw8, hst]; omega
            · rw [if_neg (fun h => hdx (by have h3 := h.2.2.2 _ (getD_mem 0 hlt); rw [← hX]; exact h3))]
              (repeat' first | (refine Owe.same ?_; first | refine Owe.o ?_ | refine Owe.mk ?_ ?_) | (refine Fork.same ?_; (first | refine fkY ?_ | refine fkF ?_ | ((first | refine fkD ?_ ?_ | refine fkN ?_ ?_ | refine fkM ?_ ?_) <;> intro h))) | ((first | refine OpsL.same ?_ | refine OpsDL.same ?_); first | refine oK C46 rfl rfl rfl ?_) | refine MvQ.stay ?_)
              · (refine rqK rfl ?_; (repeat' first | exact rfl | (refine qS ?_; constructor)))
              · (refine rqK rfl ?_; (repeat' first | exact rfl | (refine qS ?_; constructor)))
          · have hk1 : k = r.length := by omega
            have htk : r.take k = r := by rw [hk1, List.take_length]
            have hdg := hdg.h
            rw [htk] at hV hdg
            rw [htk, if_pos ⟨hok.1, hok.2.1, hok.2.2, hdg⟩]
            (repeat' first | (refine Owe.same ?_; first | refine Owe.o ?_ | refine Owe.mk ?_ ?_) | (refine Fork.same ?_; (first | refine fkY ?_ | refine fkF ?_ | ((first | refine fkD ?_ ?_ | refine fkN ?_ ?_ | refine fkM ?_ ?_) <;> intro h))) | ((first | refine OpsL.same ?_ | refine OpsDL.same ?_); first | refine oK C46 rfl rfl rfl ?_) | refine MvQ.stay ?_)
            (refine rqK rfl ?_; (repeat' first | exact rfl | (refine qS ?_; constructor)))
      · rw [if_neg (fun h => hok ⟨h.1, h.2.1, h.2.2.1⟩)]
        by_cases h1 : r.length = 0
        · refine pi2 fn194 ?_
          (repeat' first | (refine Owe.same ?_; first | refine Owe.o ?_ | refine Owe.mk ?_ ?_) | (refine Fork.same ?_; (first | refine fkY ?_ | refine fkF ?_ | ((first | refine fkD ?_ ?_ | refine fkN ?_ ?_ | refine fkM ?_ ?_) <;> intro h))) | ((first | refine OpsL.same ?_ | refine OpsDL.same ?_); first | refine oK C46 rfl rfl rfl ?_) | refine MvQ.stay ?_)
          (refine rqK rfl ?_; (repeat' first | exact rfl | (refine qS ?_; constructor)))
        · by_cases h2 : d < (r.length : Int)
          · refine pi2 fn194 ?_
            (repeat' first | (refine Owe.same ?_; first | refine Owe.o ?_ | refine Owe.mk ?_ ?_) | (refine Fork.same ?_; (first | refine fkY ?_ | refine fkF ?_ | ((first | refine fkD ?_ ?_ | refine fkN ?_ ?_ | refine fkM ?_ ?_) <;> intro h))) | ((first | refine OpsL.same ?_ | refine OpsDL.same ?_); first | refine oK C46 rfl rfl rfl ?_) | refine MvQ.stay ?_)
            (refine rqK rfl ?_; (repeat' first | exact rfl | (refine qS ?_; constructor)))
          · obtain ⟨x, q, rfl⟩ : ∃ x q, r = x :: q := by cases r with | nil => exact absurd rfl h1 | cons x q => exact ⟨x, q, rfl⟩
            have hx : x = 48 := by
              refine Classical.byContradiction fun hx => hok ⟨by simp, by omega, fun e => hx (by simpa using e)⟩
            have h48 : ((bs (45 :: x :: q)).data.toList.getD (Int.toNat 1) 0).toNat = 48 := by rw [hx]; rfl
            refine pi2 fn194 ?_
            (repeat' first | (refine Owe.same ?_; first | refine Owe.o ?_ | refine Owe.mk ?_ ?_) | (refine Fork.same ?_; (first | refine fkY ?_ | refine fkF ?_ | ((first | refine fkD ?_ ?_ | refine fkN ?_ ?_ | refine fkM ?_ ?_) <;> intro h))) | ((first | refine OpsL.same ?_ | refine OpsDL.same ?_); first | refine oK C46 rfl rfl rfl ?_) | refine MvQ.stay ?_)
            (refine rqK rfl ?_; (repeat' first | exact rfl | (refine qS ?_; constructor)))
    · rw [numV_pos (fun e => hb (by simpa using e))]
      by_cases hb48 : b = 48
      · have hz : (bs (b :: r)).size = r.length + 1 := bs_size _
        have hrl : r.length + 1 ≤ 1000000 := hs
        have h0 : (((bs (b :: r)).data.toList.getD (Int.toNat 0) 0).toNat : Int) ≠ 45 := u8_ne hb
        by_cases hok : (b :: r) ≠ [] ∧ ((b :: r).length : Int) ≤ d ∧ ((b :: r).head? = some 48 → (b :: r).length = 1)
        · have hne : 0 < (b :: r).length := List.length_pos_iff.2 hok.1
          have hle := hok.2.1
          have h48 : ((bs (b :: r)).data.toList.getD (Int.toNat 0) 0).toNat = 48 ∧ r.length = 0 := by
            have := hok.2.2 (by rw [hb48]; rfl)
            exact ⟨by rw [hb48]; rfl, by simpa using this⟩
          have hRl : (b :: r).length = r.length + 1 := rfl
          refine pi2 fn194 ?_
          (repeat' first | (refine Owe.same ?_; first | refine Owe.o ?_ | refine Owe.mk ?_ ?_) | (refine Fork.same ?_; (first | refine fkY ?_ | refine fkF ?_ | ((first | refine fkD ?_ ?_ | refine fkN ?_ ?_ | refine fkM ?_ ?_) <;> intro h))) | ((first | refine OpsL.same ?_ | refine OpsDL.same ?_); first | refine oK C46 rfl rfl rfl ?_) | refine MvQ.stay ?_)
          refine Sat.lp (fun k : Nat => ⟨[(0, sv (b :: r)), (6, vi .i64 0), (7, vi .i64 (dgV 0 ((b :: r).take k) : Int)), (8, vi .i64 (0 + (k : Int)))], [], 0⟩)
            (fun k => k ≤ (b :: r).length ∧ Hd (∀ x ∈ (b :: r).take k, isDg x)) (fun k => (b :: r).length - k) 0 [] ⟨Nat.zero_le _, ⟨by simp⟩⟩ ?_ ?_
          · (refine qis ?_ ?_ <;> (repeat' first | exact rfl | (refine qS ?_; constructor)))
          · rintro k ⟨hk, hdg⟩
            have hV := dg_tk (r := (b :: r)) (k := k) hd (by omega) hdg.h
            refine Fork.dec (fun hlt => ?_) (fun hlt => ?_)
            · have hlt : k < (b :: r).length := by omega
              have hst := dg_step hlt
              have hx0 := ((b :: r).getD k 0).toNat_lt
              generalize hX : ((b :: r).getD k 0).toNat = X at hst hx0
              have hg : (bs (b :: r)).data.toList.getD ((0 : Int) + (k : Int)).toNat 0 = (b :: r).getD k 0 := by
                rw [show ((0 : Int) + (k : Int)).toNat = k + 0 by omega]; rfl
              have hgX : (((bs (b :: r)).data.toList.getD ((0 : Int) + (k : Int)).toNat 0).toNat : Int) = X := by rw [hg, hX]
              by_cases hdx : 48 ≤ X ∧ X ≤ 57
              · have hw8 : IntKind.u8.wrap (((bs (b :: r)).data.toList.getD ((0 : Int) + (k : Int)).toNat 0).toNat - 48) = (X : Int) - 48 := by rw [hgX]; exact u8w (by omega) (by omega)
                have hdg1 : Hd (∀ x ∈ (b :: r).take (k + 1), isDg x) := ⟨fun x hb => by
                  rw [tk1 0 hlt, List.mem_append, List.mem_singleton] at hb
                  rcases hb with hb | hb
                  · exact hdg.h x hb
                  · subst hb; show 48 ≤ ((b :: r).getD k 0).toNat ∧ ((b :: r).getD k 0).toNat ≤ 57; rw [hX]; exact hdx⟩
                have hV1 := dg_tk (r := (b :: r)) (k := k + 1) hd (by omega) hdg1.h
                rw [hst] at hV1
                (repeat' first | (refine Owe.same ?_; first | refine Owe.o ?_ | refine Owe.mk ?_ ?_) | (refine Fork.same ?_; (first | refine fkY ?_ | refine fkF ?_ | ((first | refine fkD ?_ ?_ | refine fkN ?_ ?_ | refine fkM ?_ ?_) <;> intro h))) | ((first | refine OpsL.same ?_ | refine OpsDL.same ?_); first | refine oK C46 rfl rfl rfl ?_) | refine MvQ.stay ?_)
                · rw [hw8]
                  simp only [R64, and_true]
                  omega
                · refine again (k + 1) [] ⟨hlt, hdg1⟩ (by omega) ?_
                  (refine qis ?_ ?_ <;> (repeat' first | exact rfl | (refine qS ?_; constructor)))
                  rw [hw8, hst]; omega
              · rw [if_neg (fun h => hdx (by have h3 := h.2.2.2 _ (getD_mem 0 hlt); rw [← hX]; exact h3))]
                (repeat' first | (refine Owe.same ?_; first | refine Owe.o ?_ | refine Owe.mk ?_ ?_) | (refine Fork.same ?_; (first | refine fkY ?_ | refine fkF ?_ | ((first | refine fkD ?_ ?_ | refine fkN ?_ ?_ | refine fkM ?_ ?_) <;> intro h))) | ((first | refine OpsL.same ?_ | refine OpsDL.same ?_); first | refine oK C46 rfl rfl rfl ?_) | refine MvQ.stay ?_)
                · (refine rqK rfl ?_; (repeat' first | exact rfl | (refine qS ?_; constructor)))
                · (refine rqK rfl ?_; (repeat' first | exact rfl | (refine qS ?_; constructor)))
            · have hk1 : k = (b :: r).length := by omega
              have htk : (b :: r).take k = (b :: r) := by rw [hk1, List.take_length]
              have hdg := hdg.h
              rw [htk] at hV hdg
              rw [htk, if_pos ⟨hok.1, hok.2.1, hok.2.2, hdg⟩]
              (repeat' first | (refine Owe.same ?_; first | refine Owe.o ?_ | refine Owe.mk ?_ ?_) | (refine Fork.same ?_; (first | refine fkY ?_ | refine fkF ?_ | ((first | refine fkD ?_ ?_ | refine fkN ?_ ?_ | refine fkM ?_ ?_) <;> intro h))) | ((first | refine OpsL.same ?_ | refine OpsDL.same ?_); first | refine oK C46 rfl rfl rfl ?_) | refine MvQ.stay ?_)
              (refine rqK rfl ?_; (repeat' first | exact rfl | (refine qS ?_; constructor)))
        · rw [if_neg (fun h => hok ⟨h.1, h.2.1, h.2.2.1⟩)]
          by_cases h2 : d < (r.length : Int) + 1
          · refine pi2 fn194 ?_
            (repeat' first | (refine Owe.same ?_; first | refine Owe.o ?_ | refine Owe.mk ?_ ?_) | (refine Fork.same ?_; (first | refine fkY ?_ | refine fkF ?_ | ((first | refine fkD ?_ ?_ | refine fkN ?_ ?_ | refine fkM ?_ ?_) <;> intro h))) | ((first | refine OpsL.same ?_ | refine OpsDL.same ?_); first | refine oK C46 rfl rfl rfl ?_) | refine MvQ.stay ?_)
            (refine rqK rfl ?_; (repeat' first | exact rfl | (refine qS ?_; constructor)))
          · have hx : b = 48 ∧ r.length ≠ 0 := by
              refine Classical.byContradiction fun hx => hok ⟨by simp, by rw [List.length_cons]; omega, fun e => ?_⟩
              have hb48 : b = 48 := by simpa using e
              refine Classical.byContradiction fun hl => hx ⟨hb48, fun e => hl (by rw [List.length_cons, e])⟩
            have h48 : ((bs (b :: r)).data.toList.getD (Int.toNat 0) 0).toNat = 48 := by rw [hx.1]; rfl
            have hx2 := hx.2
            refine pi2 fn194 ?_
            (repeat' first | (refine Owe.same ?_; first | refine Owe.o ?_ | refine Owe.mk ?_ ?_) | (refine Fork.same ?_; (first | refine fkY ?_ | refine fkF ?_ | ((first | refine fkD ?_ ?_ | refine fkN ?_ ?_ | refine fkM ?_ ?_) <;> intro h))) | ((first | refine OpsL.same ?_ | refine OpsDL.same ?_); first | refine oK C46 rfl rfl rfl ?_) | refine MvQ.stay ?_)
            (refine rqK rfl ?_; (repeat' first | exact rfl | (refine qS ?_; constructor)))
      · have hz : (bs (b :: r)).size = r.length + 1 := bs_size _
        have hrl : r.length + 1 ≤ 1000000 := hs
        have h0 : (((bs (b :: r)).data.toList.getD (Int.toNat 0) 0).toNat : Int) ≠ 45 := u8_ne hb
        by_cases hok : (b :: r) ≠ [] ∧ ((b :: r).length : Int) ≤ d ∧ ((b :: r).head? = some 48 → (b :: r).length = 1)
        · have hne : 0 < (b :: r).length := List.length_pos_iff.2 hok.1
          have hle := hok.2.1
          have h48 : (((bs (b :: r)).data.toList.getD (Int.toNat 0) 0).toNat : Int) ≠ 48 := u8_ne hb48
          have hRl : (b :: r).length = r.length + 1 := rfl
          refine pi2 fn194 ?_
          (repeat' first | (refine Owe.same ?_; first | refine Owe.o ?_ | refine Owe.mk ?_ ?_) | (refine Fork.same ?_; (first | refine fkY ?_ | refine fkF ?_ | ((first | refine fkD ?_ ?_ | refine fkN ?_ ?_ | refine fkM ?_ ?_) <;> intro h))) | ((first | refine OpsL.same ?_ | refine OpsDL.same ?_); first | refine oK C46 rfl rfl rfl ?_) | refine MvQ.stay ?_)
          refine Sat.lp (fun k : Nat => ⟨[(0, sv (b :: r)), (6, vi .i64 0), (7, vi .i64 (dgV 0 ((b :: r).take k) : Int)), (8, vi .i64 (0 + (k : Int)))], [], 0⟩)
            (fun k => k ≤ (b :: r).length ∧ Hd (∀ x ∈ (b :: r).take k, isDg x)) (fun k => (b :: r).length - k) 0 [] ⟨Nat.zero_le _, ⟨by simp⟩⟩ ?_ ?_
          · (refine qis ?_ ?_ <;> (repeat' first | exact rfl | (refine qS ?_; constructor)))
          · rintro k ⟨hk, hdg⟩
            have hV := dg_tk (r := (b :: r)) (k := k) hd (by omega) hdg.h
            refine Fork.dec (fun hlt => ?_) (fun hlt => ?_)
            · have hlt : k < (b :: r).length := by omega
              have hst := dg_step hlt
              have hx0 := ((b :: r).getD k 0).toNat_lt
              generalize hX : ((b :: r).getD k 0).toNat = X at hst hx0
              have hg : (bs (b :: r)).data.toList.getD ((0 : Int) + (k : Int)).toNat 0 = (b :: r).getD k 0 := by
                rw [show ((0 : Int) + (k : Int)).toNat = k + 0 by omega]; rfl
              have hgX : (((bs (b :: r)).data.toList.getD ((0 : Int) + (k : Int)).toNat 0).toNat : Int) = X := by rw [hg, hX]
              by_cases hdx : 48 ≤ X ∧ X ≤ 57
              · have hw8 : IntKind.u8.wrap (((bs (b :: r)).data.toList.getD ((0 : Int) + (k : Int)).toNat 0).toNat - 48) = (X : Int) - 48 := by rw [hgX]; exact u8w (by omega) (by omega)
                have hdg1 : Hd (∀ x ∈ (b :: r).take (k + 1), isDg x) := ⟨fun x hb => by
                  rw [tk1 0 hlt, List.mem_append, List.mem_singleton] at hb
                  rcases hb with hb | hb
                  · exact hdg.h x hb
                  · subst hb; show 48 ≤ ((b :: r).getD k 0).toNat ∧ ((b :: r).getD k 0).toNat ≤ 57; rw [hX]; exact hdx⟩
                have hV1 := dg_tk (r := (b :: r)) (k := k + 1) hd (by omega) hdg1.h
                rw [hst] at hV1
                (repeat' first | (refine Owe.same ?_; first | refine Owe.o ?_ | refine Owe.mk ?_ ?_) | (refine Fork.same ?_; (first | refine fkY ?_ | refine fkF ?_ | ((first | refine fkD ?_ ?_ | refine fkN ?_ ?_ | refine fkM ?_ ?_) <;> intro h))) | ((first | refine OpsL.same ?_ | refine OpsDL.same ?_); first | refine oK C46 rfl rfl rfl ?_) | refine MvQ.stay ?_)
                · rw [hw8]
                  simp only [R64, and_true]
                  omega
                · refine again (k + 1) [] ⟨hlt, hdg1⟩ (by omega) ?_
                  (refine qis ?_ ?_ <;> (repeat' first | exact rfl | (refine qS ?_; constructor)))
                  rw [hw8, hst]; omega
              · rw [if_neg (fun h => hdx (by have h3 := h.2.2.2 _ (getD_mem 0 hlt); rw [← hX]; exact h3))]
                (repeat' first | (refine Owe.same ?_; first | refine Owe.o ?_ | refine Owe.mk ?_ ?_) | (refine Fork.same ?_; (first | refine fkY ?_ | refine fkF ?_ | ((first | refine fkD ?_ ?_ | refine fkN ?_ ?_ | refine fkM ?_ ?_) <;> intro h))) | ((first | refine OpsL.same ?_ | refine OpsDL.same ?_); first | refine oK C46 rfl rfl rfl ?_) | refine MvQ.stay ?_)
                · (refine rqK rfl ?_; (repeat' first | exact rfl | (refine qS ?_; constructor)))
                · (refine rqK rfl ?_; (repeat' first | exact rfl | (refine qS ?_; constructor)))
            · have hk1 : k = (b :: r).length := by omega
              have htk : (b :: r).take k = (b :: r) := by rw [hk1, List.take_length]
              have hdg := hdg.h
              rw [htk] at hV hdg
              rw [htk, if_pos ⟨hok.1, hok.2.1, hok.2.2, hdg⟩]
              (repeat' first | (refine Owe.same ?_; first | refine Owe.o ?_ | refine Owe.mk ?_ ?_) | (refine Fork.same ?_; (first | refine fkY ?_ | refine fkF ?_ | ((first | refine fkD ?_ ?_ | refine fkN ?_ ?_ | refine fkM ?_ ?_) <;> intro h))) | ((first | refine OpsL.same ?_ | refine OpsDL.same ?_); first | refine oK C46 rfl rfl rfl ?_) | refine MvQ.stay ?_)
              (refine rqK rfl ?_; (repeat' first | exact rfl | (refine qS ?_; constructor)))
        · rw [if_neg (fun h => hok ⟨h.1, h.2.1, h.2.2.1⟩)]
          by_cases h2 : d < (r.length : Int) + 1
          · refine pi2 fn194 ?_
            (repeat' first | (refine Owe.same ?_; first | refine Owe.o ?_ | refine Owe.mk ?_ ?_) | (refine Fork.same ?_; (first | refine fkY ?_ | refine fkF ?_ | ((first | refine fkD ?_ ?_ | refine fkN ?_ ?_ | refine fkM ?_ ?_) <;> intro h))) | ((first | refine OpsL.same ?_ | refine OpsDL.same ?_); first | refine oK C46 rfl rfl rfl ?_) | refine MvQ.stay ?_)
            (refine rqK rfl ?_; (repeat' first | exact rfl | (refine qS ?_; constructor)))
          · have hx : b = 48 ∧ r.length ≠ 0 := by
              refine Classical.byContradiction fun hx => hok ⟨by simp, by rw [List.length_cons]; omega, fun e => ?_⟩
              have hb48 : b = 48 := by simpa using e
              refine Classical.byContradiction fun hl => hx ⟨hb48, fun e => hl (by rw [List.length_cons, e])⟩
            have h48 : ((bs (b :: r)).data.toList.getD (Int.toNat 0) 0).toNat = 48 := by rw [hx.1]; rfl
            have hx2 := hx.2
            refine pi2 fn194 ?_
            (repeat' first | (refine Owe.same ?_; first | refine Owe.o ?_ | refine Owe.mk ?_ ?_) | (refine Fork.same ?_; (first | refine fkY ?_ | refine fkF ?_ | ((first | refine fkD ?_ ?_ | refine fkN ?_ ?_ | refine fkM ?_ ?_) <;> intro h))) | ((first | refine OpsL.same ?_ | refine OpsDL.same ?_); first | refine oK C46 rfl rfl rfl ?_) | refine MvQ.stay ?_)
            (refine rqK rfl ?_; (repeat' first | exact rfl | (refine qS ?_; constructor)))
end Go.Pw

set_option linter.unusedSimpArgs false
set_option linter.unusedVariables false
set_option maxHeartbeats 1000000
namespace Go.Pw
open Go.RowKit Go.Lib
set_option maxRecDepth 2000
open Go Go.Proofs A1 A2 A3 A4
theorem cut_len {c : UInt8} : ∀ {l acc : By}, ∀ x ∈ cutG c acc l, x.length ≤ acc.length + l.length
  | [], acc, x, hx => by rw [cutG, List.mem_singleton] at hx; subst hx; simp
  | y :: l, acc, x, hx => by
    rw [cutG] at hx
    split at hx
    · rcases List.mem_cons.1 hx with h1 | h1
      · subst h1; simp
      · have := cut_len x h1; simp at this ⊢; omega
    · have := cut_len x hx; simp at this ⊢; omega
theorem cut_count {c : UInt8} : ∀ {l acc : By}, (cutG c acc l).length ≤ l.length + 1
  | [], acc => by simp [cutG]
  | y :: l, acc => by
    rw [cutG]; split
    · have := cut_count (c := c) (l := l) (acc := []); simp; omega
    · have := cut_count (c := c) (l := l) (acc := acc ++ [y]); simp; omega
/-- The numbers of words. -/
def pvL (d : Int) : List By → Option (List Int)
  | [] => some []
  | x :: l => match numV x d, pvL d l with
    | some n, some m => some (n :: m)
    | _, _ => none
theorem pvL_len {d : Int} : ∀ {l : List By} {a : List Int}, pvL d l = some a → a.length = l.length
  | [], a, h => by cases h; rfl
  | x :: l, a, h => by
    rw [pvL] at h
    split at h
    · rename_i n m hn hm
      cases h
      rw [List.length_cons, List.length_cons, pvL_len hm]
    · cases h
theorem pvL_app {d : Int} {w : By} : ∀ {l : List By} {a : List Int}, pvL d l = some a → pvL d (l ++ [w]) = match numV w d with | some n => some (a ++ [n]) | none => none
  | [], a, h => by
    cases h
    cases hw : numV w d <;> simp [pvL, hw]
  | x :: l, a, h => by
    rw [pvL] at h
    rw [List.cons_append, pvL]
    split at h
    · rename_i n m hn hm
      cases h
      rw [pvL_app hm, hn]
      cases numV w d <;> simp
    · cases h
theorem pvL_bad {d : Int} {w : By} (hw : numV w d = none) : ∀ {l r : List By}, pvL d (l ++ w :: r) = none
  | [], r => by rw [List.nil_append, pvL, hw]
  | x :: l, r => by
    rw [List.cons_append, pvL, pvL_bad hw]
    cases numV x d <;> rfl
theorem pvL_take {d : Int} {l : List By} {k : Nat} (hk : k < l.length) (h : numV (l.getD k []) d = none) : pvL d l = none := by
  have e : l = l.take k ++ l.getD k [] :: l.drop (k + 1) := by
    rw [List.getD_eq_getElem?_getD, List.getElem?_eq_getElem hk]
    exact (List.take_append_drop k l).symm.trans (by rw [List.drop_eq_getElem_cons hk]; rfl)
  rw [e]; exact pvL_bad h
/-- The numbers of a text. -/
abbrev pvS (d : Int) (s : By) : Option (List Int) := pvL d (cutG 32 [] s)
theorem C194y {s : By} {d v : Int} (h : numV s d = some v) (hs : s.length ≤ 1000000 ∧ d ≤ 18) : PFD Tryz.prog 194 [sv s, vi .i64 d] (.tup [vi .i64 v, vbl true]) := by
  have := C194 hs; rw [h] at this; exact this
theorem C194n {s : By} {d : Int} (h : numV s d = none) (hs : s.length ≤ 1000000 ∧ d ≤ 18) : PFD Tryz.prog 194 [sv s, vi .i64 d] (.tup [vi .i64 0, vbl false]) := by
  have := C194 hs; rw [h] at this; exact this
theorem C102 {s : By} {d : Int} : (s.length ≤ 100000 ∧ d ≤ 18) → PFD Tryz.prog 102 [sv s, vi .i64 d] (.tup [.c (ints ((pvS d s).getD [])), vbl (pvS d s).isSome]) := fun ⟨hs, hd⟩ => by
  have h50 := C101 (s := s) (c := 32) (by omega)
  have hPl := cut_count (c := 32) (l := s) (acc := [])
  have hPx : ∀ x ∈ cutG 32 [] s, x.length ≤ 1000000 := fun x hx => by have := cut_len x hx; simp at this; omega
  show PFD Tryz.prog 102 [sv s, vi .i64 d] (.tup [.c (ints ((pvL d (cutG 32 [] s)).getD [])), vbl (pvL d (cutG 32 [] s)).isSome])
  have h50 := h50
  generalize cutG 32 [] s = P at *
  refine pi2 fn102 ?_
  (repeat' first | (refine Owe.same ?_; first | refine Owe.o ?_ | refine Owe.mk ?_ ?_) | (refine Fork.same ?_; (first | refine fkY ?_ | refine fkF ?_ | ((first | refine fkD ?_ ?_ | refine fkN ?_ ?_ | refine fkM ?_ ?_) <;> intro h))) | ((first | refine OpsL.same ?_ | refine OpsDL.same ?_); first | refine oK h50 rfl rfl rfl ?_) | refine MvQ.stay ?_)
  refine Sat.nilS 7 3 1 (fun i => r1 (([] : List Int).getD i 0)) rfl ?_
  refine Sat.lp (fun st : Nat × List Int => ⟨[(1, vi .i64 d), (6, .c (sts P)), (7, .c (.ms 0 st.2.length)), (8, vi .i64 st.1)], [(0, rowv 3 1 r1 0 st.2)], 1⟩)
    (fun st : Nat × List Int => (st.1 ≤ P.length ∧ st.2.length = st.1) ∧ Hd (pvL d (P.take st.1) = some st.2)) (fun st : Nat × List Int => P.length - st.1) (0, []) [0] ⟨by simp, ⟨rfl⟩⟩ ?_ ?_
  · (refine qis ?_ ?_ <;> (repeat' first | exact rfl | (refine qS ?_; constructor)))
  · rintro ⟨k, acc⟩ ⟨⟨hk, hal⟩, ha⟩
    simp only at hk hal ha
    refine Fork.dec (fun hlt => ?_) (fun hlt => ?_)
    · have hlt : k < P.length := by have : (k : Int) < P.length := hlt; omega
      have hpl := hPx _ (getD_mem [] hlt)
      cases hN : numV (P.getD k []) d with
      | none =>
        have h92 := C194n (s := P.getD (k : Int).toNat []) (d := d) hN ⟨hpl, hd⟩
        rw [pvL_take hlt hN]
        (repeat' first | (refine Owe.same ?_; first | refine Owe.o ?_ | refine Owe.mk ?_ ?_) | (refine Fork.same ?_; (first | refine fkY ?_ | refine fkF ?_ | ((first | refine fkD ?_ ?_ | refine fkN ?_ ?_ | refine fkM ?_ ?_) <;> intro h))) | ((first | refine OpsL.same ?_ | refine OpsDL.same ?_); first | refine oK h92 rfl rfl rfl ?_) | refine MvQ.stay ?_)
        (refine rqK rfl ?_; (repeat' first | exact rfl | (refine qS ?_; constructor)))
      | some v =>
        have h92 := C194y (s := P.getD (k : Int).toNat []) (d := d) hN ⟨hpl, hd⟩
        have hn1 : pvL d (P.take (k + 1)) = some (acc ++ [v]) := by
          rw [tk1 [] hlt, pvL_app ha.h, hN]
        have hn1 := Hd.mk hn1
        (repeat' first | (refine Owe.same ?_; first | refine Owe.o ?_ | refine Owe.mk ?_ ?_) | (refine Fork.same ?_; (first | refine fkY ?_ | refine fkF ?_ | ((first | refine fkD ?_ ?_ | refine fkN ?_ ?_ | refine fkM ?_ ?_) <;> intro h))) | ((first | refine OpsL.same ?_ | refine OpsDL.same ?_); first | refine oK h92 rfl rfl rfl ?_) | refine MvQ.stay ?_)
        refine again (k + 1, acc ++ [v]) [1] ⟨⟨hlt, by simp; omega⟩, hn1⟩ (by show P.length - (k + 1) < P.length - k; omega) ?_
        (refine qis ?_ ?_ <;> (repeat' first | exact rfl | (refine qS ?_; constructor)))
        simp
    · have hk1 : k = P.length := by have : ¬ (k : Int) < P.length := hlt; omega
      have ha := ha.h
      rw [hk1, List.take_length] at ha
      rw [ha]
      (repeat' first | (refine Owe.same ?_; first | refine Owe.o ?_ | refine Owe.mk ?_ ?_) | (refine Fork.same ?_; (first | refine fkD ?_ ?_ | refine fkN ?_ ?_ | refine fkM ?_ ?_) <;> intro h) | refine MvQ.stay ?_)
      refine rqF 0 _ rfl rfl rfl ?_; (repeat' first | exact rfl | (refine qS ?_; constructor))
end Go.Pw

set_option linter.unusedVariables false
set_option maxHeartbeats 2000000
set_option maxRecDepth 100000
namespace Go.Pw
open Go Go.Proofs
/-- moonpool/cable.FormatLine -/
def lc10u : LCode :=
  (.seq (.region [⟨some 1, .boxS (.tmp 0), none⟩, ⟨some 2, .mv (.const (.string ⟨#[]⟩)), none⟩]) (.seq (.region [⟨some 6, .fld 0 (.tmp 1), none⟩, ⟨some 7, .fld 0 (.tmp 6), none⟩,
    ⟨some 8, .load false 1 (.tmp 7), none⟩, ⟨some 9, .fld 0 (.tmp 1), none⟩, ⟨some 10, .fld 1 (.tmp 9), none⟩, ⟨some 11, .load false 1 (.tmp 10), none⟩, ⟨some 12, .lit false 3 1
    [(.tmp 8), (.tmp 11)], none⟩, ⟨some 13, .call (.func 92) [(.tmp 12)], none⟩, ⟨some 14, .lit true 9 1 [(.tmp 13)], none⟩, ⟨some 3, .mv (.tmp 14), none⟩]) (.seq (.seq (.region
    [⟨some 15, .fld 2 (.tmp 1), none⟩, ⟨some 16, .load false 1 (.tmp 15), none⟩, ⟨some 17, .len (.tmp 16), none⟩, ⟨some 18, .mv (.const (.int .i64 0)), none⟩]) (.block 0 (.loop
    (.seq (.region [⟨some 19, .bin .lss (.tmp 18) (.tmp 17), none⟩]) (.seq (.cond (.tmp 19) .skip (.exit 0)) (.seq (.block 1 (.seq (.region [⟨some 20, .idx 3 (.tmp 16) (.tmp 18),
    none⟩, ⟨some 21, .load true 3 (.tmp 20), none⟩, ⟨some 5, .alloc [(.int .i64 0), (.int .i64 0), (.int .i64 0)], none⟩, ⟨none, .store 3 (.tmp 5) (.tmp 21), none⟩]) (.region [⟨some
    22, .mv (.tmp 3), none⟩, ⟨some 23, .fld 0 (.tmp 5), none⟩, ⟨some 24, .load false 1 (.tmp 23), none⟩, ⟨some 25, .fld 1 (.tmp 5), none⟩, ⟨some 26, .load false 1 (.tmp 25), none⟩,
    ⟨some 27, .fld 2 (.tmp 5), none⟩, ⟨some 28, .load false 1 (.tmp 27), none⟩, ⟨some 29, .lit false 3 1 [(.tmp 24), (.tmp 26), (.tmp 28)], none⟩, ⟨some 30, .call (.func 92) [(.tmp
    29)], none⟩, ⟨some 31, .lit false 9 1 [(.tmp 30)], none⟩, ⟨some 32, .append true 9 1 16 (.tmp 22) (.tmp 31), none⟩, ⟨some 3, .mv (.tmp 32), none⟩]))) (.region [⟨some 33, .bin
    .add (.tmp 18) (.const (.int .i64 1)), none⟩, ⟨some 18, .mv (.tmp 33), none⟩]))))))) (.seq (.region [⟨some 34, .mv (.tmp 3), none⟩, ⟨some 35, .call (.func 93) [(.tmp 34),
    (.const (.string ⟨#[59]⟩))], none⟩, ⟨some 2, .mv (.tmp 35), none⟩]) .ret))))
theorem low10u : lowF Tryz.prog [1, 14, 32] Tryz.f10 = some (36, lc10u.strip, [.tmp 2]) := by kernel_rfl
theorem fn10u : FnOk Tryz.prog 10 36 lc10u [.tmp 2] := ⟨Tryz.call10, [1, 14, 32], _, Tryz.func10, low10u⟩
end Go.Pw

set_option linter.unusedSimpArgs false
set_option linter.unusedVariables false
set_option maxHeartbeats 1000000
namespace Go.Pw
open Go.RowKit Go.Lib
set_option maxRecDepth 2000
open Go Go.Proofs A1 A2 A3 A4
theorem i64_2 {a b : Int} (h1 : i64P a) (h2 : i64P b) : ∀ n ∈ [a, b], i64P n := fun n hn => by
  simp only [List.mem_cons, List.not_mem_nil, or_false] at hn
  rcases hn with rfl | rfl <;> assumption
/-- A line as a string. -/
def lnS (x z : Int) (l : List Tr3) : By := jnG 59 (wdS [x, z] :: l.map dvW)
theorem dw_len {d : Tr3} (h : w64P d) : (dvW d).length ≤ 66 := wd_len (i64_3 h.1 h.2.1 h.2.2)
theorem hd_len {a b : Int} (h1 : i64P a) (h2 : i64P b) : (wdS [a, b]).length ≤ 44 := wd_len (i64_2 h1 h2)
theorem ln_len {x z : Int} {l : List Tr3} (hx : i64P x) (hz : i64P z) (h : ∀ d ∈ l, w64P d) : (lnS x z l).length ≤ (l.length + 1) * 67 := by
  have := jn_len (c := 59) (M := 66) (l := wdS [x, z] :: l.map dvW) (fun y hy => by
    rcases List.mem_cons.1 hy with h1 | h1
    · subst h1; have := hd_len hx hz; omega
    · obtain ⟨d, hd, rfl⟩ := List.mem_map.1 h1
      exact dw_len (h d hd))
  rw [List.length_cons, List.length_map] at this; exact this
theorem ln_step {x z : Int} {l : List Tr3} {k : Nat} (h : k < l.length) : lnS x z (l.take (k + 1)) = lnS x z (l.take k) ++ 59 :: dvW (l.getD k (0, 0, 0)) := by
  unfold lnS
  rw [tk1 (0, 0, 0) h, List.map_append, ← List.cons_append]
  exact jn_app (by simp)
theorem C103_2 {a b : Int} (h1 : i64P a) (h2 : i64P b) : PFD Tryz.prog 103 [.c (ints [a, b])] (sv (wdS [a, b])) := C103 ⟨by simp, i64_2 h1 h2⟩
theorem C103_3 {a b c : Int} (h1 : i64P a) (h2 : i64P b) (h3 : i64P c) : PFD Tryz.prog 103 [.c (ints [a, b, c])] (sv (wdS [a, b, c])) := C103 ⟨by simp, i64_3 h1 h2 h3⟩
theorem C92_2 {a b : Int} (h1 : i64P a) (h2 : i64P b) : PFD Tryz.prog 92 [.c (ints [a, b])] (sv (wdS [a, b])) := C92 ⟨by simp, i64_2 h1 h2⟩
abbrev lnD (x z : Int) (l : List Tr3) : List D := [dI x, dI z, .sl 3 l.length fun i => r3 (l.getD i (0, 0, 0))]
theorem C18 {x z : Int} {l : List Tr3} : (l.length ≤ 1000 ∧ i64P x ∧ i64P z ∧ ∀ d ∈ l, w64P d) → PFD Tryz.prog 18 [.agg [int x, int z, trs l]] (sv (lnS x z l)) := fun ⟨hl, hx, hz, h⟩ => by
  have h := Hd.mk h
  have h2 := C103_2 hx hz
  have hxz := Hd.mk (And.intro hx hz)
  clear hx hz
  refine pi1 fn18 ?_
  (repeat' first | (refine Owe.same ?_; first | refine Owe.o ?_ | refine Owe.mk ?_ ?_) | (refine Fork.same ?_; (first | refine fkD ?_ ?_ | refine fkN ?_ ?_ | refine fkM ?_ ?_) <;> intro h) | ((first | refine OpsL.same ?_ | refine OpsDL.same ?_); first | refine pK h2 rfl rfl ?_) | refine MvQ.stay ?_)
  refine Sat.lp (fun k : Nat => ⟨[(1, .c (.rp (lnD x z l))), (3, sv (lnS x z (l.take k))), (4, vi .i64 k)], [], 0⟩)
    (fun k => k ≤ l.length) (fun k => l.length - k) 0 [] (Nat.zero_le _) ?_ ?_
  · (refine qis ?_ ?_ <;> (repeat' first | exact rfl | (refine qS ?_; constructor)))
  · intro k hk
    refine Fork.dec (fun hlt => ?_) (fun hlt => ?_)
    · have hlt : k < l.length := by have : (k : Int) < l.length := hlt; omega
      have hi := h.h _ (getD_mem (0, 0, 0) hlt)
      have hst := ln_step (x := x) (z := z) hlt
      have hz : (bs (lnS x z (l.take k))).size ≤ 200000 := by
        have := ln_len (x := x) (z := z) (l := l.take k) hxz.h.1 hxz.h.2 (fun r hr => h.h r (List.mem_of_mem_take hr))
        rw [bs_size]; simp only [List.length_take] at this; omega
      have hz2 : (bs (dvW (l.getD k (0, 0, 0)))).size ≤ 66 := by rw [bs_size]; exact dw_len hi
      have hs1 : (ByteArray.mk #[59]).size = 1 := rfl
      generalize hW : lnS x z (l.take k) = W at hst hz
      have hst := Hd.mk hst
      have hW := Hd.mk hW
      have ho1 : (((bs W).size + (ByteArray.mk #[59]).size : Nat) : Int) ≤ 9223372036854775807 := by omega
      have ho3 : (((bs (W ++ [59])).size + (bs (dvW (l.getD k (0, 0, 0)))).size : Nat) : Int) ≤ 9223372036854775807 := by
        have : (bs (W ++ [59])).size = (bs W).size + 1 := by rw [bs_size, bs_size]; simp
        omega
      have h52 := C103_3 (a := (l.getD (k : Int).toNat (0, 0, 0)).1) (b := (l.getD (k : Int).toNat (0, 0, 0)).2.1) (c := (l.getD (k : Int).toNat (0, 0, 0)).2.2) hi.1 hi.2.1 hi.2.2
      have hi := Hd.mk hi
      generalize hI : wdS [(l.getD (k : Int).toNat (0, 0, 0)).1, (l.getD (k : Int).toNat (0, 0, 0)).2.1, (l.getD (k : Int).toNat (0, 0, 0)).2.2] = I at h52
      have hI2 : dvW (l.getD k (0, 0, 0)) = I := hI
      rw [hI2] at ho3
      have hst := Hd.mk (hI2 ▸ hst.h)
      (repeat' first | (refine Owe.same ?_; refine Owe.mk ?_ ?_) | (refine Fork.same ?_; (first | refine fkD ?_ ?_ | refine fkN ?_ ?_ | refine fkM ?_ ?_) <;> intro h) | ((first | refine OpsL.same ?_ | refine OpsDL.same ?_); first | refine pK h52 rfl rfl ?_) | refine MvQ.stay ?_)
      · show 0 ≤ (k : Int) ∧ (k : Int) < l.length; omega
      · exact ⟨ho1, trivial⟩
      · exact ho3
      · clear ho1 ho3; exact ⟨by omega, by omega⟩
      · refine again (k + 1) [] hlt (by omega) ?_
        (refine qis ?_ ?_ <;> (repeat' first | exact rfl | (refine qS ?_; constructor)))
        refine VEq.str ?_
        rw [hst.h]
        simp [bs]
    · have hk1 : k = l.length := by have : ¬ (k : Int) < l.length := hlt; omega
      have hw : lnS x z (l.take k) = lnS x z l := by rw [List.take_of_length_le (by omega)]
      rw [hw]
      (repeat' first | (refine Owe.same ?_; first | refine Owe.o ?_ | refine Owe.mk ?_ ?_) | (refine Fork.same ?_; (first | refine fkD ?_ ?_ | refine fkN ?_ ?_ | refine fkM ?_ ?_) <;> intro h) | refine MvQ.stay ?_)
      (refine rqK rfl ?_; (repeat' first | exact rfl | (refine qS ?_; constructor)))
/-- A box as a string. -/
def fl2 : List (Int × Int) → List Int
  | [] => []
  | r :: b => r.1 :: r.2 :: fl2 b
theorem fl2_app : ∀ (b : List (Int × Int)) (r : Int × Int), fl2 (b ++ [r]) = fl2 b ++ [r.1, r.2]
  | [], r => rfl
  | q :: b, r => by rw [List.cons_append, fl2, fl2, fl2_app b r]; rfl
theorem fl2_len : ∀ b : List (Int × Int), (fl2 b).length = 2 * b.length
  | [] => rfl
  | r :: b => by rw [fl2, List.length_cons, List.length_cons, fl2_len b, List.length_cons]; omega
theorem fl2_mem : ∀ {b : List (Int × Int)} {n : Int}, n ∈ fl2 b → ∃ r ∈ b, n = r.1 ∨ n = r.2
  | [], n, h => absurd h (by simp [fl2])
  | r :: b, n, h => by
    rw [fl2, List.mem_cons, List.mem_cons] at h
    rcases h with h | h | h
    · exact ⟨r, by simp, .inl h⟩
    · exact ⟨r, by simp, .inr h⟩
    · obtain ⟨q, hq, h⟩ := fl2_mem h; exact ⟨q, by simp [hq], h⟩
abbrev w64Q (r : Int × Int) : Prop := i64P r.1 ∧ i64P r.2
theorem fl2_i64 {b : List (Int × Int)} (h : ∀ r ∈ b, w64Q r) : ∀ n ∈ fl2 b, i64P n := fun n hn => by
  obtain ⟨r, hr, h1 | h1⟩ := fl2_mem hn
  · rw [h1]; exact (h r hr).1
  · rw [h1]; exact (h r hr).2
theorem EEq.two {e : TypeId} {l l' : List Int} {a b : Int} (hl : l' = l ++ [a, b]) : EEq (.row e 1 (l.length + 2) (fun i => if i < l.length then r1 (l.getD i 0) else [[dI a], [dI b]].getD (i - l.length) []) false) (rowv e 1 r1 0 l') := by
  subst hl
  refine EEq.rowl (by simp) fun i hi => ?_
  by_cases h : i < l.length
  · rw [if_pos h]; show r1 (l.getD i 0) = r1 ((l ++ [a, b]).getD i 0)
    rw [List.getD_eq_getElem?_getD, List.getD_eq_getElem?_getD, List.getElem?_append_left h]
  · rw [if_neg h]; show _ = r1 ((l ++ [a, b]).getD i 0)
    rw [List.getD_eq_getElem?_getD (l := l ++ [a, b]), List.getElem?_append_right (by omega)]
    have : i - l.length = 0 ∨ i - l.length = 1 := by omega
    rcases this with h1 | h1 <;> rw [h1] <;> rfl
def bxS (b : List (Int × Int)) : By := wdS (fl2 b)
theorem C19 {b : List (Int × Int)} : (b.length ≤ 400 ∧ ∀ r ∈ b, w64Q r) → PFD Tryz.prog 19 [.c (prs b)] (sv (bxS b)) := fun ⟨hl, h⟩ => by
  have h103 := C103 (l := fl2 b) ⟨by rw [fl2_len]; omega, fl2_i64 h⟩
  clear h
  refine pi1 fn19 ?_
  (repeat' first | (refine Owe.same ?_; first | refine Owe.o ?_ | refine Owe.mk ?_ ?_) | (refine Fork.same ?_; (first | refine fkD ?_ ?_ | refine fkN ?_ ?_ | refine fkM ?_ ?_) <;> intro h) | refine MvQ.stay ?_)
  refine Sat.nilS 3 3 1 (fun i => r1 (([] : List Int).getD i 0)) rfl ?_
  refine Sat.lp (fun k : Nat => ⟨[(0, .c (prs b)), (3, .c (.ms 0 (fl2 (b.take k)).length)), (4, vi .i64 k)], [(0, rowv 3 1 r1 0 (fl2 (b.take k)))], 1⟩)
    (fun k => k ≤ b.length) (fun k => b.length - k) 0 [0] (Nat.zero_le _) ?_ ?_
  · (refine qis ?_ ?_ <;> (repeat' first | exact rfl | (refine qS ?_; constructor)))
  · intro k hk
    refine Fork.dec (fun hlt => ?_) (fun hlt => ?_)
    · have hlt : k < b.length := by have : (k : Int) < b.length := hlt; omega
      have ht : fl2 (b.take (k + 1)) = fl2 (b.take k) ++ [(b.getD k (0, 0)).1, (b.getD k (0, 0)).2] := by
        rw [tk1 (0, 0) hlt, fl2_app]
      have hk1 : (fl2 (b.take k)).length ≤ 1000 := by rw [fl2_len, List.length_take]; omega
      (repeat' first | (refine Owe.same ?_; first | refine Owe.o ?_ | refine Owe.mk ?_ ?_) | (refine Fork.same ?_; (first | refine fkD ?_ ?_ | refine fkN ?_ ?_ | refine fkM ?_ ?_) <;> intro h) | refine MvQ.stay ?_)
      refine again (k + 1) [13] hlt (by omega) ?_
      (refine qis ?_ ?_ <;> (repeat' first | exact rfl | (refine qS ?_; constructor)))
      · rw [ht, List.length_append]; rfl
      · exact EEq.two ht
    · have hk1 : k = b.length := by have : ¬ (k : Int) < b.length := hlt; omega
      have hw : fl2 (b.take k) = fl2 b := by rw [List.take_of_length_le (by omega)]
      rw [hw]
      (repeat' first | (refine Owe.same ?_; first | refine Owe.o ?_ | refine Owe.mk ?_ ?_) | (refine Fork.same ?_; (first | refine fkD ?_ ?_ | refine fkN ?_ ?_ | refine fkM ?_ ?_) <;> intro h))
      refine MvQ.frz 3 _ rfl rfl (Nat.le_refl _) ?_
      (repeat' first | (refine Owe.same ?_; first | refine Owe.o ?_ | refine Owe.mk ?_ ?_) | (refine Fork.same ?_; (first | refine fkY ?_ | refine fkF ?_ | ((first | refine fkD ?_ ?_ | refine fkN ?_ ?_ | refine fkM ?_ ?_) <;> intro h))) | ((first | refine OpsL.same ?_ | refine OpsDL.same ?_); first | refine oK h103 rfl rfl rfl ?_) | refine MvQ.stay ?_)
      (refine rqK rfl ?_; (repeat' first | exact rfl | (refine qS ?_; constructor)))
theorem C12 {b : List (Int × Int)} : (b.length ≤ 400 ∧ ∀ r ∈ b, w64Q r) → PFD Tryz.prog 12 [.c (prs b)] (sv (bxS b)) := fun ⟨hl, h⟩ => by
  have h103 := C92 (l := fl2 b) ⟨by rw [fl2_len]; omega, fl2_i64 h⟩
  clear h
  refine pi1 fn12 ?_
  (repeat' first | (refine Owe.same ?_; first | refine Owe.o ?_ | refine Owe.mk ?_ ?_) | (refine Fork.same ?_; (first | refine fkD ?_ ?_ | refine fkN ?_ ?_ | refine fkM ?_ ?_) <;> intro h) | refine MvQ.stay ?_)
  refine Sat.nilS 3 3 1 (fun i => r1 (([] : List Int).getD i 0)) rfl ?_
  refine Sat.lp (fun k : Nat => ⟨[(6, .c (prs b)), (7, vi .i64 b.length), (3, .c (.ms 0 (fl2 (b.take k)).length)), (8, vi .i64 k)], [(0, rowv 3 1 r1 0 (fl2 (b.take k)))], 1⟩)
    (fun k => k ≤ b.length) (fun k => b.length - k) 0 [0] (Nat.zero_le _) ?_ ?_
  · (refine qis ?_ ?_ <;> (repeat' first | exact rfl | (refine qS ?_; constructor)))
  · intro k hk
    refine Fork.dec (fun hlt => ?_) (fun hlt => ?_)
    · have hlt : k < b.length := by have : (k : Int) < b.length := hlt; omega
      have ht : fl2 (b.take (k + 1)) = fl2 (b.take k) ++ [(b.getD k (0, 0)).1, (b.getD k (0, 0)).2] := by
        rw [tk1 (0, 0) hlt, fl2_app]
      have hk1 : (fl2 (b.take k)).length ≤ 1000 := by rw [fl2_len, List.length_take]; omega
      (repeat' first | (refine Owe.same ?_; first | refine Owe.o ?_ | refine Owe.mk ?_ ?_) | (refine Fork.same ?_; (first | refine fkD ?_ ?_ | refine fkN ?_ ?_ | refine fkM ?_ ?_) <;> intro h) | refine MvQ.stay ?_)
      refine again (k + 1) [2] hlt (by omega) ?_
      (refine qis ?_ ?_ <;> (repeat' first | exact rfl | (refine qS ?_; constructor)))
      · rw [ht, List.length_append]; rfl
      · exact EEq.two ht
    · have hk1 : k = b.length := by have : ¬ (k : Int) < b.length := hlt; omega
      have hw : fl2 (b.take k) = fl2 b := by rw [List.take_of_length_le (by omega)]
      rw [hw]
      (repeat' first | (refine Owe.same ?_; first | refine Owe.o ?_ | refine Owe.mk ?_ ?_) | (refine Fork.same ?_; (first | refine fkD ?_ ?_ | refine fkN ?_ ?_ | refine fkM ?_ ?_) <;> intro h))
      refine MvQ.frz 3 _ rfl rfl (Nat.le_refl _) ?_
      (repeat' first | (refine Owe.same ?_; first | refine Owe.o ?_ | refine Owe.mk ?_ ?_) | (refine Fork.same ?_; (first | refine fkY ?_ | refine fkF ?_ | ((first | refine fkD ?_ ?_ | refine fkN ?_ ?_ | refine fkM ?_ ?_) <;> intro h))) | ((first | refine OpsL.same ?_ | refine OpsDL.same ?_); first | refine oK h103 rfl rfl rfl ?_) | refine MvQ.stay ?_)
      (refine rqK rfl ?_; (repeat' first | exact rfl | (refine qS ?_; constructor)))
theorem C10 {x z : Int} {l : List Tr3} : (l.length ≤ 1000 ∧ i64P x ∧ i64P z ∧ ∀ d ∈ l, w64P d) → PFD Tryz.prog 10 [.agg [int x, int z, trs l]] (sv (lnS x z l)) := fun ⟨hl, hx, hz, h⟩ => by
  have hj := ln_len hx hz h
  have h := Hd.mk h
  have h2 := C92_2 hx hz
  clear hx hz
  have hf : (wdS [x, z] :: l.map dvW).length ≤ 1000000 := by rw [List.length_cons, List.length_map]; omega
  have h93 := C93 (l := wdS [x, z] :: l.map dvW) (c := 59) ⟨hf, by show (lnS x z l).length ≤ _; omega⟩
  refine pi1 fn10u ?_
  (repeat' first | (refine Owe.same ?_; first | refine Owe.o ?_ | refine Owe.mk ?_ ?_) | (refine Fork.same ?_; (first | refine fkD ?_ ?_ | refine fkN ?_ ?_ | refine fkM ?_ ?_) <;> intro h) | ((first | refine OpsL.same ?_ | refine OpsDL.same ?_); first | refine pK h2 rfl rfl ?_) | refine MvQ.stay ?_)
  refine Sat.lp (fun k : Nat => ⟨[(16, .c (trs l)), (17, vi .i64 l.length), (18, vi .i64 k), (3, .c (.ms 0 (wdS [x, z] :: (l.take k).map dvW).length))], [(0, rowv 9 1 rS [] (wdS [x, z] :: (l.take k).map dvW))], 1⟩)
    (fun k => k ≤ l.length) (fun k => l.length - k) 0 [0] (Nat.zero_le _) ?_ ?_
  · (refine qis ?_ ?_ <;> (repeat' first | exact rfl | (refine qS ?_; constructor)))
  · intro k hk
    refine Fork.dec (fun hlt => ?_) (fun hlt => ?_)
    · have hlt : k < l.length := by have : (k : Int) < l.length := hlt; omega
      have hi := h.h _ (getD_mem (0, 0, 0) hlt)
      have h52 := C41_3 (a := (l.getD (k : Int).toNat (0, 0, 0)).1) (b := (l.getD (k : Int).toNat (0, 0, 0)).2.1) (c := (l.getD (k : Int).toNat (0, 0, 0)).2.2) hi.1 hi.2.1 hi.2.2
      have ht : (wdS [x, z] :: (l.take (k + 1)).map dvW) = (wdS [x, z] :: (l.take k).map dvW) ++ [dvW (l.getD k (0, 0, 0))] := by
        rw [tk1 (0, 0, 0) hlt, List.map_append]; rfl
      have hk1 : (wdS [x, z] :: (l.take k).map dvW).length ≤ 1001 := by rw [List.length_cons, List.length_map, List.length_take]; omega
      clear hi
      generalize hL : (wdS [x, z] :: (l.take k).map dvW) = L at ht hk1
      (repeat' first | (refine Owe.same ?_; first | refine Owe.o ?_ | refine Owe.mk ?_ ?_) | (refine Fork.same ?_; (first | refine fkD ?_ ?_ | refine fkN ?_ ?_ | refine fkM ?_ ?_) <;> intro h) | ((first | refine OpsL.same ?_ | refine OpsDL.same ?_); first | refine pK h52 rfl rfl ?_) | refine MvQ.stay ?_)
      refine again (k + 1) [2] hlt (by omega) ?_
      (refine qis ?_ ?_ <;> (repeat' first | exact rfl | (refine qS ?_; constructor)))
      · rw [ht, List.length_append]; rfl
      · exact ⟨_, rfl, ht⟩
    · have hk1 : k = l.length := by have : ¬ (k : Int) < l.length := hlt; omega
      have hw : (l.take k).map dvW = l.map dvW := by rw [List.take_of_length_le (by omega)]
      rw [hw]
      (repeat' first | (refine Owe.same ?_; first | refine Owe.o ?_ | refine Owe.mk ?_ ?_) | (refine Fork.same ?_; (first | refine fkD ?_ ?_ | refine fkN ?_ ?_ | refine fkM ?_ ?_) <;> intro h))
      refine MvQ.frz 3 _ rfl rfl (Nat.le_refl _) ?_
      (repeat' first | (refine Owe.same ?_; first | refine Owe.o ?_ | refine Owe.mk ?_ ?_) | (refine Fork.same ?_; (first | refine fkY ?_ | refine fkF ?_ | ((first | refine fkD ?_ ?_ | refine fkN ?_ ?_ | refine fkM ?_ ?_) <;> intro h))) | ((first | refine OpsL.same ?_ | refine OpsDL.same ?_); first | refine oK h93 rfl rfl rfl ?_) | refine MvQ.stay ?_)
      (refine rqK rfl ?_; (repeat' first | exact rfl | (refine qS ?_; constructor)))
end Go.Pw

set_option linter.unusedSimpArgs false
set_option linter.unusedVariables false
namespace Go.Pw
set_option maxRecDepth 2000
open Go Go.Proofs A1 A2 A3 A4
theorem C236 {n b : Int} : (Md n ∧ 0 < b) → PFD Tryz.prog 236 [vi .i64 n, vi .i64 b] (vi .i64 (n / b)) := fun ⟨hn, hb⟩ => by
  have h5 := tdiv_bd (b := b) hn
  refine pi1 fn236 ?_
  (repeat' first | (refine Owe.same ?_; first | refine Owe.o ?_ | refine Owe.mk ?_ ?_) | (refine Fork.same ?_; (first | refine fkD ?_ ?_ | refine fkN ?_ ?_ | refine fkM ?_ ?_) <;> intro h) | refine MvQ.stay ?_)
  · (refine rqK rfl ?_; (repeat' first | exact rfl | (refine qS ?_; constructor))); rw [← floor_eq hb, if_pos h]
  · (refine rqK rfl ?_; (repeat' first | exact rfl | (refine qS ?_; constructor))); rw [← floor_eq hb, if_neg h]
theorem C237 {n b : Int} : (Md n ∧ 0 < b) → PFD Tryz.prog 237 [vi .i64 n, vi .i64 b] (vi .i64 (ceilI n b)) := fun ⟨hn, hb⟩ => by
  have h5 := ediv_bd (a := -n) (M := 4611686018427387904) hb (by omega)
  refine pi1 fn237 ?_
  (repeat' first | (refine Owe.same ?_; first | refine Owe.o ?_ | refine Owe.mk ?_ ?_) | (refine Fork.same ?_; (first | refine fkD ?_ ?_ | refine fkN ?_ ?_ | refine fkM ?_ ?_) <;> intro h) | ((first | refine OpsL.same ?_ | refine OpsDL.same ?_); first | refine pK C236 rfl rfl ?_) | refine MvQ.stay ?_)
  (refine rqK rfl ?_; (repeat' first | exact rfl | (refine qS ?_; constructor)))
theorem C13 {l : List (Int × Int)} : l.length ≤ 1000000 → PFD Tryz.prog 13 [.c (prs l)] (.c (prs l)) := fun h => by
  refine pi1 fn13 ?_
  (repeat' first | (refine Owe.same ?_; first | refine Owe.o ?_ | refine Owe.mk ?_ ?_) | (refine Fork.same ?_; (first | refine fkD ?_ ?_ | refine fkN ?_ ?_ | refine fkM ?_ ?_) <;> intro h) | refine MvQ.stay ?_)
  (refine rqK rfl ?_; (repeat' first | exact rfl | (refine qS ?_; constructor)))
theorem C11 {x z : Int} {l : List (Int × Int × Int)} : l.length ≤ 1000000 → PFD Tryz.prog 11 [.agg [int x, int z, trs l]] (.agg [int x, int z, trs l]) := fun h => by
  refine pi1 fn11 ?_
  (repeat' first | (refine Owe.same ?_; first | refine Owe.o ?_ | refine Owe.mk ?_ ?_) | (refine Fork.same ?_; (first | refine fkD ?_ ?_ | refine fkN ?_ ?_ | refine fkM ?_ ?_) <;> intro h) | refine MvQ.stay ?_)
  (refine rqK rfl ?_; (repeat' first | exact rfl | (refine qS ?_; constructor)))
end Go.Pw

set_option linter.unusedSimpArgs false
set_option linter.unusedVariables false
namespace Go.Pw
set_option maxRecDepth 2000
open Go Go.Proofs A1 A2 A3 A4
theorem C91 {l m : List (Int × Int)} : l.length < 4611686018427387904 → PFD Tryz.prog 91 [.c (prs l), .c (prs m)] (vbl (decide (l = m))) := fun hl => by
  refine pi1 fn91 ?_
  (repeat' first | (refine Owe.same ?_; first | refine Owe.o ?_ | refine Owe.mk ?_ ?_) | (refine Fork.same ?_; (first | refine fkD ?_ ?_ | refine fkN ?_ ?_ | refine fkM ?_ ?_) <;> intro h) | refine MvQ.stay ?_)
  · (refine rqK rfl ?_; (repeat' first | exact rfl | (refine qS ?_; constructor))); simp only [decide_eq_false_iff_not]; intro he; subst he; omega
  · have hlm : l.length = m.length := by omega
    clear h
    refine Sat.lp0 (fun k : Nat => [(5, vi .i64 k), (0, .c (prs l)), (1, .c (prs m))]) (fun k => k ≤ l.length ∧ ∀ i, i < k → l.getD i (0, 0) = m.getD i (0, 0)) (fun k => l.length - k) 0 ⟨Nat.zero_le _, fun i hi => by omega⟩ (by ((first | refine qen ?_ | refine qvs ?_ | refine qeq ?_ | refine qst ?_ | refine qv ?_ | refine qc ?_ | refine qe ?_ | refine qcs ?_ | skip); (repeat' first | exact rfl | (refine qS ?_; constructor)))) ?_
    intro k hk
    (repeat' first | (refine Owe.same ?_; first | refine Owe.o ?_ | refine Owe.mk ?_ ?_) | (refine Fork.same ?_; (first | refine fkD ?_ ?_ | refine fkN ?_ ?_ | refine fkM ?_ ?_) <;> intro h) | refine MvQ.stay ?_)
    · simp only [Int.toNat_natCast, pair_eq, Bool.not_eq_true', decide_eq_false_iff_not] at h
      (refine rqK rfl ?_; (repeat' first | exact rfl | (refine qS ?_; constructor))); simp only [decide_eq_false_iff_not]; intro he; subst he; exact h rfl
    · simp only [Int.toNat_natCast, pair_eq, Bool.not_eq_false', decide_eq_true_eq] at h
      refine again0 (k + 1) ⟨by omega, fun i hi => ?_⟩ (by omega) (by ((first | refine qen ?_ | refine qvs ?_ | refine qeq ?_ | refine qst ?_ | refine qv ?_ | refine qc ?_ | refine qe ?_ | refine qcs ?_ | skip); (repeat' first | exact rfl | (refine qS ?_; constructor))))
      rcases Nat.lt_succ_iff_lt_or_eq.1 hi with h3 | rfl
      · exact hk.2 i h3
      · exact h
    · (refine rqK rfl ?_; (repeat' first | exact rfl | (refine qS ?_; constructor))); simp only [decide_eq_true_eq]; exact ext_getD (0, 0) hlm fun i hi => hk.2 i (by omega)
theorem C21 {l m : List (Int × Int)} : l.length < 4611686018427387904 → PFD Tryz.prog 21 [.c (prs l), .c (prs m)] (vbl (decide (l = m))) := fun hl => by
  refine pi1 fn21 ?_
  (repeat' first | (refine Owe.same ?_; first | refine Owe.o ?_ | refine Owe.mk ?_ ?_) | (refine Fork.same ?_; (first | refine fkD ?_ ?_ | refine fkN ?_ ?_ | refine fkM ?_ ?_) <;> intro h) | refine MvQ.stay ?_)
  · (refine rqK rfl ?_; (repeat' first | exact rfl | (refine qS ?_; constructor))); simp only [decide_eq_false_iff_not]; intro he; subst he; omega
  · have hlm : l.length = m.length := by omega
    clear h
    refine Sat.lp0 (fun k : Nat => [(5, vi .i64 k), (0, .c (prs l)), (1, .c (prs m))]) (fun k => k ≤ l.length ∧ ∀ i, i < k → l.getD i (0, 0) = m.getD i (0, 0)) (fun k => l.length - k) 0 ⟨Nat.zero_le _, fun i hi => by omega⟩ (by ((first | refine qen ?_ | refine qvs ?_ | refine qeq ?_ | refine qst ?_ | refine qv ?_ | refine qc ?_ | refine qe ?_ | refine qcs ?_ | skip); (repeat' first | exact rfl | (refine qS ?_; constructor)))) ?_
    intro k hk
    (repeat' first | (refine Owe.same ?_; first | refine Owe.o ?_ | refine Owe.mk ?_ ?_) | (refine Fork.same ?_; (first | refine fkD ?_ ?_ | refine fkN ?_ ?_ | refine fkM ?_ ?_) <;> intro h) | refine MvQ.stay ?_)
    · simp only [Int.toNat_natCast, pair_eq, Bool.not_eq_true', decide_eq_false_iff_not] at h
      (refine rqK rfl ?_; (repeat' first | exact rfl | (refine qS ?_; constructor))); simp only [decide_eq_false_iff_not]; intro he; subst he; exact h rfl
    · simp only [Int.toNat_natCast, pair_eq, Bool.not_eq_false', decide_eq_true_eq] at h
      refine again0 (k + 1) ⟨by omega, fun i hi => ?_⟩ (by omega) (by ((first | refine qen ?_ | refine qvs ?_ | refine qeq ?_ | refine qst ?_ | refine qv ?_ | refine qc ?_ | refine qe ?_ | refine qcs ?_ | skip); (repeat' first | exact rfl | (refine qS ?_; constructor))))
      rcases Nat.lt_succ_iff_lt_or_eq.1 hi with h3 | rfl
      · exact hk.2 i h3
      · exact h
    · (refine rqK rfl ?_; (repeat' first | exact rfl | (refine qS ?_; constructor))); simp only [decide_eq_true_eq]; exact ext_getD (0, 0) hlm fun i hi => hk.2 i (by omega)
theorem C269 {a b : Int} : (Md a ∧ Md b) → PFD Tryz.prog 269 [vi .i64 a, vi .i64 b] (vi .i64 (gcdI a b)) := fun hab => by
  refine pi1 fn269 ?_
  (repeat' first | (refine Owe.same ?_; first | refine Owe.o ?_ | refine Owe.mk ?_ ?_) | (refine Fork.same ?_; (first | refine fkD ?_ ?_ | refine fkN ?_ ?_ | refine fkM ?_ ?_) <;> intro h) | refine MvQ.stay ?_)
  refine Sat.lp0 (fun p : Int × Int => [(0, vi .i64 p.1), (1, vi .i64 p.2)]) (fun p => (Md p.1 ∧ Md p.2) ∧ Int.gcd p.1 p.2 = Int.gcd a b) (fun p => p.2.natAbs) (a, b) ⟨hab, rfl⟩ (by ((first | refine qen ?_ | refine qvs ?_ | refine qeq ?_ | refine qst ?_ | refine qv ?_ | refine qc ?_ | refine qe ?_ | refine qcs ?_ | skip); (repeat' first | exact rfl | (refine qS ?_; constructor)))) ?_
  rintro ⟨x, y⟩ ⟨hm, hg⟩
  (repeat' first | (refine Owe.same ?_; first | refine Owe.o ?_ | refine Owe.mk ?_ ?_) | (refine Fork.same ?_; (first | refine fkD ?_ ?_ | refine fkN ?_ ?_ | refine fkM ?_ ?_) <;> intro h) | refine MvQ.stay ?_)
  · have h1 := tmod_abs (a := x) h
    refine again0 (y, x.tmod y) ⟨⟨hm.2, by have := hm.2; simp only [Md] at *; omega⟩, by rw [gcd_step]; exact hg⟩ h1 (by ((first | refine qen ?_ | refine qvs ?_ | refine qeq ?_ | refine qst ?_ | refine qv ?_ | refine qc ?_ | refine qe ?_ | refine qcs ?_ | skip); (repeat' first | exact rfl | (refine qS ?_; constructor))))
  · (refine rqK rfl ?_; (repeat' first | exact rfl | (refine qS ?_; constructor)))
    have h : y = 0 := h
    subst h
    exact (gcd_zero x).symm.trans (by simp only [gcdI]; rw [← hg])
theorem C238 {n d : Int} : (Md n ∧ Md d ∧ 0 < d) → PFD Tryz.prog 238 [vi .i64 n, vi .i64 d] (.agg [int (frac n d).1, int (frac n d).2]) := fun ⟨hn, hd, h0⟩ => by
  have h1 := gcd_pos (n := n) h0
  have h2 := tdiv_bd (b := gcdI n d) hn
  have h3 := tdiv_bd (b := gcdI n d) hd
  refine pi1 fn238 ?_
  (repeat' first | (refine Owe.same ?_; first | refine Owe.o ?_ | refine Owe.mk ?_ ?_) | (refine Fork.same ?_; (first | refine fkD ?_ ?_ | refine fkN ?_ ?_ | refine fkM ?_ ?_) <;> intro h) | ((first | refine OpsL.same ?_ | refine OpsDL.same ?_); first | refine pK C269 rfl rfl ?_) | refine MvQ.stay ?_)
  (refine rqK rfl ?_; (repeat' first | exact rfl | (refine qS ?_; constructor)))
end Go.Pw

set_option linter.unusedSimpArgs false
set_option linter.unusedVariables false
namespace Go.Pw
set_option maxRecDepth 2000
open Go Go.Proofs A1 A2 A3 A4
end Go.Pw

set_option linter.unusedSimpArgs false
set_option linter.unusedVariables false
namespace Go.Pw
set_option maxRecDepth 2000
open Go Go.Proofs A1 A2 A3 A4
theorem C239 {x y : Int} : (U64 x ∧ U64 y) → PFD Tryz.prog 239 [vi .u64 x, vi .u64 y] (.tup [vi .u64 (x * y / 18446744073709551616), vi .u64 (x * y % 18446744073709551616)]) := fun ⟨hx, hy⟩ => by
  have h1 := split32 hx hy
  refine pi2 fn239 ?_
  (repeat' first | (refine Owe.same ?_; first | refine Owe.o ?_ | refine Owe.mk ?_ ?_) | (refine Fork.same ?_; (first | refine fkD ?_ ?_ | refine fkN ?_ ?_ | refine fkM ?_ ?_) <;> intro h) | refine MvQ.stay ?_)
  (refine rqK rfl ?_; (repeat' first | exact rfl | (refine qS ?_; constructor)))
  simp only [and_mask hx, and_mask hy, shr32, u64_wrap]
  rw [and_mask2, h1.1]
  obtain ⟨_, h2, h3, h4, h5⟩ := h1
  generalize x / 4294967296 * (y / 4294967296) = a at *
  generalize x / 4294967296 * (y % 4294967296) = b at *
  generalize x % 4294967296 * (y / 4294967296) = c at *
  generalize x % 4294967296 * (y % 4294967296) = d at *
  omega
theorem C178 {a b : Int × Int} : ((0 ≤ a.1 ∧ a.1 ≤ 9223372036854775807) ∧ (0 ≤ a.2 ∧ a.2 ≤ 9223372036854775807) ∧ (0 ≤ b.1 ∧ b.1 ≤ 9223372036854775807) ∧ 0 ≤ b.2 ∧ b.2 ≤ 9223372036854775807) → PFD Tryz.prog 178 [.agg [int a.1, int a.2], .agg [int b.1, int b.2]] (vbl (lessQ a b)) := fun hh => by
  have w : ∀ n : Int, (0 ≤ n ∧ n ≤ 9223372036854775807) → IntKind.u64.wrap n = n := fun n h => by rw [u64_wrap]; omega
  have h1 := w a.1 (by omega)
  have h2 := w a.2 (by omega)
  have h3 := w b.1 (by omega)
  have h4 := w b.2 (by omega)
  refine pi1 fn178 ?_
  (repeat' first | (refine Owe.same ?_; first | refine Owe.o ?_ | refine Owe.mk ?_ ?_) | (refine Fork.same ?_; (first | refine fkD ?_ ?_ | refine fkN ?_ ?_ | refine fkM ?_ ?_) <;> intro h) | ((first | refine OpsL.same ?_ | refine OpsDL.same ?_); first | refine pK C239 rfl rfl ?_) | refine MvQ.stay ?_)

  all_goals ((refine rqK rfl ?_; (repeat' first | exact rfl | (refine qS ?_; constructor))); simp only [h1, h2, h3, h4] at *; simp only [lessQ, decide_eq_true_eq, decide_eq_false_iff_not, decide_eq_decide]; omega)
end Go.Pw

set_option linter.unusedSimpArgs false
set_option linter.unusedVariables false
namespace Go.Pw
set_option maxRecDepth 2000
open Go Go.Proofs A1 A2 A3 A4
theorem C126 {g : FuncId} {f : Int → Int} (hg : ∀ i x : Int, PFD Tryz.prog g [vi .i64 i, vi .i64 x] (vi .i64 (f x))) {l : List Int} : l.length ≤ 1000000 → PFD Tryz.prog 126 [.c (ints l), .c (.fn g [])] (.tup [vi .i64 (eachE f 0 l).1, vi .i64 (eachE f 0 l).2]) := fun hl => by
  refine pi2 fn126 ?_
  (repeat' first | (refine Owe.same ?_; first | refine Owe.o ?_ | refine Owe.mk ?_ ?_) | (refine Fork.same ?_; (first | refine fkD ?_ ?_ | refine fkN ?_ ?_ | refine fkM ?_ ?_) <;> intro h) | refine MvQ.stay ?_)
  refine Sat.lp0 (fun k : Nat => [(11, vi .i64 k), (10, vi .i64 l.length), (9, .c (ints l)), (1, .c (.fn g []))]) (fun k => k ≤ l.length ∧ eachE f 0 l = eachE f k (l.drop k)) (fun k => l.length - k) 0 ⟨Nat.zero_le _, rfl⟩ (by ((first | refine qen ?_ | refine qvs ?_ | refine qeq ?_ | refine qst ?_ | refine qv ?_ | refine qc ?_ | refine qe ?_ | refine qcs ?_ | skip); (repeat' first | exact rfl | (refine qS ?_; constructor)))) ?_
  intro k hk
  (repeat' first | (refine Owe.same ?_; first | refine Owe.o ?_ | refine Owe.mk ?_ ?_) | (refine Fork.same ?_; (first | refine fkD ?_ ?_ | refine fkN ?_ ?_ | refine fkM ?_ ?_) <;> intro h) | ((first | refine OpsL.same ?_ | refine OpsDL.same ?_); first | refine pK (hg _ _) rfl rfl ?_) | refine MvQ.stay ?_)
  · have e := eachE_drop f 0 l k (by omega)
    have h : ¬ f (l.getD k 0) = 0 := h
    rw [if_neg h, ← hk.2] at e
    (refine rqK rfl ?_; (repeat' first | exact rfl | (refine qS ?_; constructor))) <;> rw [e] <;> rfl
  · have e := eachE_drop f 0 l k (by omega)
    have h : f (l.getD k 0) = 0 := h
    rw [if_pos h, ← hk.2] at e
    exact again0 (k + 1) ⟨by omega, e⟩ (by omega) (by ((first | refine qen ?_ | refine qvs ?_ | refine qeq ?_ | refine qst ?_ | refine qv ?_ | refine qc ?_ | refine qe ?_ | refine qcs ?_ | skip); (repeat' first | exact rfl | (refine qS ?_; constructor))))
  · have e : eachE f 0 l = (0, 0) := by rw [hk.2, List.drop_of_length_le (by omega)]; rfl
    (refine rqK rfl ?_; (repeat' first | exact rfl | (refine qS ?_; constructor))) <;> rw [e]
theorem C188 {g : FuncId} {f : Lk → Int} (hg : ∀ (i : Int) (x : Lk), PFD Tryz.prog g [vi .i64 i, .agg [int x.1, int x.2.1, int x.2.2]] (vi .i64 (f x))) {l : List Lk} : l.length ≤ 1000000 → PFD Tryz.prog 188 [.c (trs l), .c (.fn g [])] (.tup [vi .i64 (eachE f 0 l).1, vi .i64 (eachE f 0 l).2]) := fun hl => by
  refine pi2 fn188 ?_
  (repeat' first | (refine Owe.same ?_; first | refine Owe.o ?_ | refine Owe.mk ?_ ?_) | (refine Fork.same ?_; (first | refine fkD ?_ ?_ | refine fkN ?_ ?_ | refine fkM ?_ ?_) <;> intro h) | refine MvQ.stay ?_)
  refine Sat.lp0 (fun k : Nat => [(11, vi .i64 k), (10, vi .i64 l.length), (9, .c (trs l)), (1, .c (.fn g []))]) (fun k => k ≤ l.length ∧ eachE f 0 l = eachE f k (l.drop k)) (fun k => l.length - k) 0 ⟨Nat.zero_le _, rfl⟩ (by ((first | refine qen ?_ | refine qvs ?_ | refine qeq ?_ | refine qst ?_ | refine qv ?_ | refine qc ?_ | refine qe ?_ | refine qcs ?_ | skip); (repeat' first | exact rfl | (refine qS ?_; constructor)))) ?_
  intro k hk
  (repeat' first | (refine Owe.same ?_; first | refine Owe.o ?_ | refine Owe.mk ?_ ?_) | (refine Fork.same ?_; (first | refine fkD ?_ ?_ | refine fkN ?_ ?_ | refine fkM ?_ ?_) <;> intro h) | ((first | refine OpsL.same ?_ | refine OpsDL.same ?_); first | refine pK (hg _ _) rfl rfl ?_) | refine MvQ.stay ?_)
  · have e := eachE_drop f (0, 0, 0) l k (by omega)
    have h : ¬ f (l.getD k (0, 0, 0)) = 0 := h
    rw [if_neg h, ← hk.2] at e
    (refine rqK rfl ?_; (repeat' first | exact rfl | (refine qS ?_; constructor))) <;> rw [e] <;> rfl
  · have e := eachE_drop f (0, 0, 0) l k (by omega)
    have h : f (l.getD k (0, 0, 0)) = 0 := h
    rw [if_pos h, ← hk.2] at e
    exact again0 (k + 1) ⟨by omega, e⟩ (by omega) (by ((first | refine qen ?_ | refine qvs ?_ | refine qeq ?_ | refine qst ?_ | refine qv ?_ | refine qc ?_ | refine qe ?_ | refine qcs ?_ | skip); (repeat' first | exact rfl | (refine qS ?_; constructor))))
  · have e : eachE f 0 l = (0, 0) := by rw [hk.2, List.drop_of_length_le (by omega)]; rfl
    (refine rqK rfl ?_; (repeat' first | exact rfl | (refine qS ?_; constructor))) <;> rw [e]
theorem C260 {g : FuncId} {f : Rg → Int} (hg : ∀ (i : Int) (x : Rg), PFD Tryz.prog g [vi .i64 i, .agg [int x.1, int x.2]] (vi .i64 (f x))) {l : List Rg} : l.length ≤ 1000000 → PFD Tryz.prog 260 [.c (prs l), .c (.fn g [])] (.tup [vi .i64 (eachE f 0 l).1, vi .i64 (eachE f 0 l).2]) := fun hl => by
  refine pi2 fn260 ?_
  (repeat' first | (refine Owe.same ?_; first | refine Owe.o ?_ | refine Owe.mk ?_ ?_) | (refine Fork.same ?_; (first | refine fkD ?_ ?_ | refine fkN ?_ ?_ | refine fkM ?_ ?_) <;> intro h) | refine MvQ.stay ?_)
  refine Sat.lp0 (fun k : Nat => [(11, vi .i64 k), (10, vi .i64 l.length), (9, .c (prs l)), (1, .c (.fn g []))]) (fun k => k ≤ l.length ∧ eachE f 0 l = eachE f k (l.drop k)) (fun k => l.length - k) 0 ⟨Nat.zero_le _, rfl⟩ (by ((first | refine qen ?_ | refine qvs ?_ | refine qeq ?_ | refine qst ?_ | refine qv ?_ | refine qc ?_ | refine qe ?_ | refine qcs ?_ | skip); (repeat' first | exact rfl | (refine qS ?_; constructor)))) ?_
  intro k hk
  (repeat' first | (refine Owe.same ?_; first | refine Owe.o ?_ | refine Owe.mk ?_ ?_) | (refine Fork.same ?_; (first | refine fkD ?_ ?_ | refine fkN ?_ ?_ | refine fkM ?_ ?_) <;> intro h) | ((first | refine OpsL.same ?_ | refine OpsDL.same ?_); first | refine pK (hg _ _) rfl rfl ?_) | refine MvQ.stay ?_)
  · have e := eachE_drop f (0, 0) l k (by omega)
    have h : ¬ f (l.getD k (0, 0)) = 0 := h
    rw [if_neg h, ← hk.2] at e
    (refine rqK rfl ?_; (repeat' first | exact rfl | (refine qS ?_; constructor))) <;> rw [e] <;> rfl
  · have e := eachE_drop f (0, 0) l k (by omega)
    have h : f (l.getD k (0, 0)) = 0 := h
    rw [if_pos h, ← hk.2] at e
    exact again0 (k + 1) ⟨by omega, e⟩ (by omega) (by ((first | refine qen ?_ | refine qvs ?_ | refine qeq ?_ | refine qst ?_ | refine qv ?_ | refine qc ?_ | refine qe ?_ | refine qcs ?_ | skip); (repeat' first | exact rfl | (refine qS ?_; constructor))))
  · have e : eachE f 0 l = (0, 0) := by rw [hk.2, List.drop_of_length_le (by omega)]; rfl
    (refine rqK rfl ?_; (repeat' first | exact rfl | (refine qS ?_; constructor))) <;> rw [e]
theorem C189 {i : Int} {k : Lk} : PFD Tryz.prog 189 [vi .i64 i, .agg [int k.1, int k.2.1, int k.2.2]] (vi .i64 (lkErr k)) := by
  refine pi1 fn189 ?_
  (repeat' first | (refine Owe.same ?_; first | refine Owe.o ?_ | refine Owe.mk ?_ ?_) | (refine Fork.same ?_; (first | refine fkD ?_ ?_ | refine fkN ?_ ?_ | refine fkM ?_ ?_) <;> intro h) | ((first | refine OpsL.same ?_ | refine OpsDL.same ?_); first | refine pK C128 rfl rfl ?_ | refine pK C187 rfl rfl ?_ | refine pK C125 rfl rfl ?_) | refine MvQ.stay ?_)
  all_goals ((refine rqK rfl ?_; (repeat' first | exact rfl | (refine qS ?_; constructor))); simp only [lkErr, unl_eq, unb_eq, decide_eq_true_eq, reduceCtorEq, if_false, Bool.false_eq_true]; ((repeat' split) <;> first | rfl | (exfalso; omega) | omega))
theorem C209 {i n : Int} : PFD Tryz.prog 209 [vi .i64 i, vi .i64 n] (vi .i64 (curErr n)) := by
  refine pi1 fn209 ?_
  (repeat' first | (refine Owe.same ?_; first | refine Owe.o ?_ | refine Owe.mk ?_ ?_) | (refine Fork.same ?_; (first | refine fkD ?_ ?_ | refine fkN ?_ ?_ | refine fkM ?_ ?_) <;> intro h) | ((first | refine OpsL.same ?_ | refine OpsDL.same ?_); first | refine pK C210 rfl rfl ?_ | refine pK C125 rfl rfl ?_) | refine MvQ.stay ?_)
  (refine rqK rfl ?_; (repeat' first | exact rfl | (refine qS ?_; constructor)))
theorem C261 {i : Int} {r : Rg} : PFD Tryz.prog 261 [vi .i64 i, .agg [int r.1, int r.2]] (vi .i64 (rgErr r)) := by
  refine pi1 fn261 ?_
  (repeat' first | (refine Owe.same ?_; first | refine Owe.o ?_ | refine Owe.mk ?_ ?_) | (refine Fork.same ?_; (first | refine fkD ?_ ?_ | refine fkN ?_ ?_ | refine fkM ?_ ?_) <;> intro h) | ((first | refine OpsL.same ?_ | refine OpsDL.same ?_); first | refine pK C210 rfl rfl ?_ | refine pK C125 rfl rfl ?_ | refine pK C124 rfl rfl ?_) | refine MvQ.stay ?_)
  all_goals ((refine rqK rfl ?_; (repeat' first | exact rfl | (refine qS ?_; constructor))); simp only [rgErr, fstE, unl_eq, unb_eq, decide_eq_true_eq, reduceCtorEq, if_false, Bool.false_eq_true]; ((repeat' split) <;> first | rfl | (exfalso; omega) | omega))
theorem C96 {x z : Int} {l : List Lk} : l.length ≤ 1000000 → PFD Tryz.prog 96 [.agg [int x, int z, trs l]] (.tup [vi .i64 (lineE x z l).1, vi .i64 (lineE x z l).2]) := fun hl => by
  have hc := C188 (fun i x => C189) hl
  refine pi2 fn96 ?_
  (repeat' first | (refine Owe.same ?_; first | refine Owe.o ?_ | refine Owe.mk ?_ ?_) | (refine Fork.same ?_; (first | refine fkD ?_ ?_ | refine fkN ?_ ?_ | refine fkM ?_ ?_) <;> intro h) | ((first | refine OpsL.same ?_ | refine OpsDL.same ?_); first | refine pK C187 rfl rfl ?_ | refine pK C125 rfl rfl ?_ | refine pK C124 rfl rfl ?_ | refine pK hc rfl rfl ?_) | refine MvQ.stay ?_)
  · rename_i h0
    rw [unl_and_t h0] at h
    have e : lineE x z l = (0, ldE x z l) := if_neg h
    (refine rqK rfl ?_; (repeat' first | exact rfl | (refine qS ?_; constructor))) <;> rw [e]
    rw [unl_and_t h0]
  · rename_i h0
    rw [unl_and_t h0] at h
    have e : lineE x z l = eachE lkErr 0 l := if_pos h
    (refine rqK rfl ?_; (repeat' first | exact rfl | (refine qS ?_; constructor))) <;> rw [e]
  · rename_i h0
    rw [unl_and_f (q := -10000 ≤ z ∧ z ≤ 10000) h0] at h
    have e : lineE x z l = (0, ldE x z l) := if_neg h
    (refine rqK rfl ?_; (repeat' first | exact rfl | (refine qS ?_; constructor))) <;> rw [e]
    rw [unl_and_f (q := -10000 ≤ z ∧ z ≤ 10000) h0]
  · rename_i h0
    rw [unl_and_f (q := -10000 ≤ z ∧ z ≤ 10000) h0] at h
    have e : lineE x z l = eachE lkErr 0 l := if_pos h
    (refine rqK rfl ?_; (repeat' first | exact rfl | (refine qS ?_; constructor))) <;> rw [e]
theorem C207 {x z : Int} {l : List Lk} {b : List Rg} : (l.length ≤ 1000000 ∧ b.length ≤ 1000000) → PFD Tryz.prog 207 [.agg [int x, int z, trs l], .c (prs b)] (.tup [vi .i64 (lbE x z l b).1, vi .i64 (lbE x z l b).2]) := fun ⟨hl, hb⟩ => by
  have hc := C260 (fun i x => C261) hb
  have hc2 := C96 (x := x) (z := z) hl
  refine pi2 fn207 ?_
  (repeat' first | (refine Owe.same ?_; first | refine Owe.o ?_ | refine Owe.mk ?_ ?_) | (refine Fork.same ?_; (first | refine fkD ?_ ?_ | refine fkN ?_ ?_ | refine fkM ?_ ?_) <;> intro h) | ((first | refine OpsL.same ?_ | refine OpsDL.same ?_); first | refine pK hc rfl rfl ?_ | refine pK hc2 rfl rfl ?_) | refine MvQ.stay ?_)
  · have e : lbE x z l b = lineE x z l := if_neg h
    (refine rqK rfl ?_; (repeat' first | exact rfl | (refine qS ?_; constructor))) <;> rw [e]
  · rename_i h0
    have e : lbE x z l b = (0, 10) := by rw [lbE, if_pos h0, boxE, if_neg (by omega)]
    (refine rqK rfl ?_; (repeat' first | exact rfl | (refine qS ?_; constructor))) <;> rw [e]
  · rename_i h0
    have e : lbE x z l b = eachE rgErr 0 b := by rw [lbE, if_pos h0, boxE, if_pos (by omega)]
    (refine rqK rfl ?_; (repeat' first | exact rfl | (refine qS ?_; constructor))) <;> rw [e]
end Go.Pw

set_option linter.unusedSimpArgs false
set_option linter.unusedVariables false
namespace Go.Pw
set_option maxRecDepth 2000
open Go Go.Proofs A1 A2 A3 A4
theorem C123 {x z : Int} {l : List Lk} {c : List Int} : (l.length ≤ 1000000 ∧ c.length ≤ 1000000) → PFD Tryz.prog 123 [.agg [int x, int z, trs l], .c (ints c)] (.tup [.agg (opn x z l c).1.v, vi .i64 (opn x z l c).2]) := fun ⟨hl, hc⟩ => by
  have c1 := C96 (x := x) (z := z) hl
  have c2 := C126 (fun i x => C209) hc
  refine pi2 fn123 ?_
  (repeat' first | (refine Owe.same ?_; first | refine Owe.o ?_ | refine Owe.mk ?_ ?_) | (refine Fork.same ?_; (first | refine fkD ?_ ?_ | refine fkN ?_ ?_ | refine fkM ?_ ?_) <;> intro h) | ((first | refine OpsL.same ?_ | refine OpsDL.same ?_); first | refine pK c1 rfl rfl ?_ | refine pK c2 rfl rfl ?_ | refine pK C125 rfl rfl ?_ | refine pK C124 rfl rfl ?_) | refine MvQ.stay ?_)
  · have e : opn x z l c = (⟨0, 0, [], []⟩, opE x z l c) := if_neg h
    rw [e]
    (refine rqK rfl ?_; (repeat' first | exact rfl | (refine qS ?_; constructor)))
  · have e : opn x z l c = (⟨x, z, l, c.map dup⟩, (eachE curErr 0 c).2) := if_pos h
    rw [e]
    refine Sat.nilB 2 3 82 2 (fun i => r2 (([] : List Rg).getD i (0, 0))) rfl rfl ?_
    refine Sat.lp (fun k : Nat => ⟨[(39, vi .i64 k), (38, vi .i64 c.length), (37, .c (ints c)), (8, .c (.bp 2 0)), (7, vi .i64 (eachE curErr 0 c).2), (4, .c (.bp 1 0))],
      [(3, rowv 82 2 r2 (0, 0) ((c.take k).map dup)), (2, .box [int x, int z, trs l, .ms 3 ((c.take k).map dup).length]), (1, .box [int 0, int 0, .d (.v (.slice none 0 0)), .d (.v (.slice none 0 0))])], 4⟩)
      (fun k => k ≤ c.length) (fun k => c.length - k) 0 [0, 1, 2, 3] (Nat.zero_le _) ?_ ?_
    · (refine qis ?_ ?_ <;> (repeat' first | exact rfl | (refine qS ?_; constructor)))
    · intro k hk
      have hn : ((c.take k).map dup).length = k := by simp; omega
      (repeat' first | (refine Owe.same ?_; first | refine Owe.o ?_ | refine Owe.mk ?_ ?_) | (refine Fork.same ?_; (first | refine fkD ?_ ?_ | refine fkN ?_ ?_ | refine fkM ?_ ?_) <;> intro h) | refine MvQ.stay ?_)
      · have e3 := map_take dup 0 c k (by omega)
        refine again (k + 1) [0, 1, 2, 4] (by omega) (by omega) ?_
        (refine qis ?_ ?_ <;> (repeat' first | exact rfl | (refine qS ?_; constructor)))
        · exact e3
        · simp; omega
      · have : k = c.length := by omega
        subst this
        refine rqA 0 3 _ rfl rfl rfl rfl ?_; (repeat' first | exact rfl | (refine qS ?_; constructor))
        exact congrArg (List.map dup) (List.take_of_length_le (Nat.le_refl _))
theorem C120 {x z : Int} {l : List Lk} {b : List Rg} : (l.length ≤ 1000000 ∧ b.length ≤ 1000000) → PFD Tryz.prog 120 [.agg [int x, int z, trs l], .c (prs b)] (.tup [.agg (Ln.mk x z l b).v, vi .i64 (lbE x z l b).2]) := fun hl => by
  have c1 := C207 (x := x) (z := z) hl
  refine pi2 fn120 ?_
  (repeat' first | (refine Owe.same ?_; first | refine Owe.o ?_ | refine Owe.mk ?_ ?_) | (refine Fork.same ?_; (first | refine fkD ?_ ?_ | refine fkN ?_ ?_ | refine fkM ?_ ?_) <;> intro h) | ((first | refine OpsL.same ?_ | refine OpsDL.same ?_); first | refine pK c1 rfl rfl ?_) | refine MvQ.stay ?_)
  (refine rqK rfl ?_; (repeat' first | exact rfl | (refine qS ?_; constructor)))
theorem C214 {L : Ln} : L.Ok → PFD Tryz.prog 214 [.agg L.v] (vi .i64 (slkE L)) := fun hL => by
  refine pi1 fn214 ?_
  (repeat' first | (refine Owe.same ?_; first | refine Owe.o ?_ | refine Owe.mk ?_ ?_) | (refine Fork.same ?_; (first | refine fkD ?_ ?_ | refine fkN ?_ ?_ | refine fkM ?_ ?_) <;> intro h) | refine MvQ.stay ?_)
  refine Ops.cs rfl rfl (CallS.of fn121 rfl ?_)
  refine Sat.keep [2, 6] ?_
  refine Sat.rf rfl rfl (CallS.of fn208 rfl ?_)
  (repeat' first | (refine Owe.same ?_; first | refine Owe.o ?_ | refine Owe.mk ?_ ?_) | (refine Fork.same ?_; (first | refine fkD ?_ ?_ | refine fkN ?_ ?_ | refine fkM ?_ ?_) <;> intro h) | refine MvQ.stay ?_)
  refine Sat.lp (fun k : Nat => ⟨[(24, vi .i64 k), (23, vi .i64 L.l.length), (22, .c (trs L.l)), (3, .c (.bp 4 0)), (1, .c (.bp 2 0)), (0, .c (.yd 3))], [(4, .box [int (L.pl k), int (L.ph k), int (L.pz k), int (L.hh k)]), (3, .lp [(2, .c (.bp 1 0)), (6, .c (.fn 208 [2]))] .ready none (RR Tryz.prog 12 [7, 8] ra214 rb214)), (2, .box L.v), (1, .box [int 0])], 5⟩)
    (fun k => k ≤ L.l.length ∧ ∀ j, j < k → 0 < L.pz (j + 1)) (fun k => L.l.length - k) 0 [4] ⟨Nat.zero_le _, fun j h => by omega⟩ ?_ ?_
  · (refine qis ?_ ?_ <;> (repeat' first | exact rfl | (refine qS ?_; constructor)))
  · intro k hk
    refine Fork.dec (fun hlt => ?_) (fun hlt => ?_)
    · have hlt : k < L.l.length := by omega
      have hrd := hL.round hlt
      (repeat' first | (refine Owe.same ?_; first | refine Owe.o ?_ | refine Owe.mk ?_ ?_) | (refine Fork.same ?_; (first | refine fkD ?_ ?_ | refine fkN ?_ ?_ | refine fkM ?_ ?_) <;> intro h) | refine MvQ.stay ?_)
      refine Ops.yd rfl rfl rfl rfl rfl ?_
      (repeat' first | (refine Owe.same ?_; first | refine Owe.o ?_ | refine Owe.mk ?_ ?_) | (refine Fork.same ?_; (first | refine fkD ?_ ?_ | refine fkN ?_ ?_ | refine fkM ?_ ?_) <;> intro h) | refine MvQ.stay ?_)
      refine And.intro rfl (Exists.intro _ (And.intro rfl ?_))
      (repeat' first | (refine Owe.same ?_; first | refine Owe.o ?_ | refine Owe.mk ?_ ?_) | (refine Fork.same ?_; (first | refine fkD ?_ ?_ | refine fkN ?_ ?_ | refine fkM ?_ ?_) <;> intro h) | refine MvQ.stay ?_)
      · have h' : L.pz (k + 1) ≤ 0 := h
        refine Exists.intro _ (Exists.intro _ (Exists.intro _ (And.intro rfl ?_)))
        (repeat' first | (refine Owe.same ?_; first | refine Owe.o ?_ | refine Owe.mk ?_ ?_) | (refine Fork.same ?_; (first | refine fkD ?_ ?_ | refine fkN ?_ ?_ | refine fkM ?_ ?_) <;> intro h) | refine MvQ.stay ?_)
        (refine rqK rfl ?_; (repeat' first | exact rfl | (refine qS ?_; constructor)))
        rw [slkE, if_neg (fun hh => by have := hh k hlt; omega)]
      · have h' : ¬ L.pz (k + 1) ≤ 0 := h
        refine Exists.intro _ (Exists.intro _ (Exists.intro _ (And.intro rfl ?_)))
        (repeat' first | (refine Owe.same ?_; first | refine Owe.o ?_ | refine Owe.mk ?_ ?_) | (refine Fork.same ?_; (first | refine fkD ?_ ?_ | refine fkN ?_ ?_ | refine fkM ?_ ?_) <;> intro h) | refine MvQ.stay ?_)
        refine again (k + 1) [4] ⟨hlt, fun j hj => ?_⟩ (by omega) ?_
        · rcases Nat.lt_succ_iff_lt_or_eq.1 hj with h3 | rfl
          · exact hk.2 j h3
          · omega
        · (refine qis ?_ ?_ <;> (repeat' first | exact rfl | (refine qS ?_; constructor)))
    · (repeat' first | (refine Owe.same ?_; first | refine Owe.o ?_ | refine Owe.mk ?_ ?_) | (refine Fork.same ?_; (first | refine fkD ?_ ?_ | refine fkN ?_ ?_ | refine fkM ?_ ?_) <;> intro h) | refine MvQ.stay ?_)
      (refine rqK rfl ?_; (repeat' first | exact rfl | (refine qS ?_; constructor)))
      rw [slkE, if_pos (fun j hj => hk.2 j (by omega))]
theorem C136 {L : Ln} {e : Int} : (e = 0 → L.Ok) → PFD Tryz.prog 136 [.agg L.v, vi .i64 e] (.tup [.agg L.v, vi .i64 (if e = 0 then slkE L else e)]) := fun hL => by
  by_cases he : e = 0
  · have hc := C214 (hL he)
    rw [if_pos he]
    refine pi2 fn136 ?_
    (repeat' first | (refine Owe.same ?_; first | refine Owe.o ?_ | refine Owe.mk ?_ ?_) | (refine Fork.same ?_; (first | refine fkD ?_ ?_ | refine fkN ?_ ?_ | refine fkM ?_ ?_) <;> intro h) | ((first | refine OpsL.same ?_ | refine OpsDL.same ?_); first | refine pK hc rfl rfl ?_) | refine MvQ.stay ?_)
    · (refine rqK rfl ?_; (repeat' first | exact rfl | (refine qS ?_; constructor)))
    · exact absurd he h
  · rw [if_neg he]
    refine pi2 fn136 ?_
    refine Fork.dec (fun h => absurd h he) (fun h => ?_)
    (repeat' first | (refine Owe.same ?_; first | refine Owe.o ?_ | refine Owe.mk ?_ ?_) | (refine Fork.same ?_; (first | refine fkD ?_ ?_ | refine fkN ?_ ?_ | refine fkM ?_ ?_) <;> intro h) | refine MvQ.stay ?_)
    (refine rqK rfl ?_; (repeat' first | exact rfl | (refine qS ?_; constructor)))
theorem C129 {L : Ln} : L.Ok → PFD Tryz.prog 129 [.agg L.v] (.c (prs (accL (tnF L) L.l.length))) := fun hL => by
  refine pi1 fn129 ?_
  (repeat' first | (refine Owe.same ?_; first | refine Owe.o ?_ | refine Owe.mk ?_ ?_) | (refine Fork.same ?_; (first | refine fkD ?_ ?_ | refine fkN ?_ ?_ | refine fkM ?_ ?_) <;> intro h) | refine MvQ.stay ?_)
  refine Ops.cs rfl rfl (CallS.of fn121 rfl ?_); refine Sat.keep [3, 7] ?_; refine Sat.rf rfl rfl (CallS.of fn208 rfl ?_); (repeat' first | (refine Owe.same ?_; first | refine Owe.o ?_ | refine Owe.mk ?_ ?_) | (refine Fork.same ?_; (first | refine fkD ?_ ?_ | refine fkN ?_ ?_ | refine fkM ?_ ?_) <;> intro h) | refine MvQ.stay ?_)
  refine Sat.nilB 1 0 23 2 (fun i => r2 (([] : List Rg).getD i (0, 0))) rfl rfl ?_
  refine Sat.lp (fun k : Nat => ⟨[(24, vi .i64 k), (23, vi .i64 L.l.length), (22, .c (trs L.l)), (3, .c (.bp 4 0)), (1, .c (.bp 2 0)), (0, .c (.yd 3))], [(4, .box [int (L.pl k), int (L.ph k), int (L.pz k), int (L.hh k)]), (3, .lp [(3, .c (.bp 1 0)), (7, .c (.fn 208 [2]))] .ready none (RR Tryz.prog 20 [8, 9] ra129 rb129)), (2, .box L.v), (1, .box [.ms 5 (accL (tnF L) k).length]), (5, rowv 23 2 r2 (0, 0) (accL (tnF L) k))], 6⟩)
    (fun k => k ≤ L.l.length) (fun k => L.l.length - k) 0 [4, 5] (Nat.zero_le _) ?_ ?_
  · (refine qis ?_ ?_ <;> (repeat' first | exact rfl | (refine qS ?_; constructor)))
  · intro k hk
    refine Fork.dec (fun hlt => ?_) (fun hlt => ?_)
    · have hlt : k < L.l.length := by omega
      have hrd := hL.round hlt
      have hn := accL_len (tnF L) k
      (repeat' first | (refine Owe.same ?_; first | refine Owe.o ?_ | refine Owe.mk ?_ ?_) | (refine Fork.same ?_; (first | refine fkD ?_ ?_ | refine fkN ?_ ?_ | refine fkM ?_ ?_) <;> intro h) | refine MvQ.stay ?_)
      refine Ops.yd rfl rfl rfl rfl rfl ?_
      (repeat' first | (refine Owe.same ?_; first | refine Owe.o ?_ | refine Owe.mk ?_ ?_) | (refine Fork.same ?_; (first | refine fkD ?_ ?_ | refine fkN ?_ ?_ | refine fkM ?_ ?_) <;> intro h) | refine MvQ.stay ?_)
      refine And.intro rfl (Exists.intro _ (And.intro rfl ?_))
      (repeat' first | (refine Owe.same ?_; first | refine Owe.o ?_ | refine Owe.mk ?_ ?_) | (refine Fork.same ?_; (first | refine fkD ?_ ?_ | refine fkN ?_ ?_ | refine fkM ?_ ?_) <;> intro h) | refine MvQ.stay ?_)
      refine Exists.intro _ (Exists.intro _ (Exists.intro _ (And.intro rfl ?_)))
      (repeat' first | (refine Owe.same ?_; first | refine Owe.o ?_ | refine Owe.mk ?_ ?_) | (refine Fork.same ?_; (first | refine fkD ?_ ?_ | refine fkN ?_ ?_ | refine fkM ?_ ?_) <;> intro h) | refine MvQ.stay ?_)
      refine again (k + 1) [4, 51] hlt (by omega) ?_
      (refine qis ?_ ?_ <;> (repeat' first | exact rfl | (refine qS ?_; constructor)))
      · simp [accL_len]
      · exact accL_succ _ k
    · (repeat' first | (refine Owe.same ?_; first | refine Owe.o ?_ | refine Owe.mk ?_ ?_) | (refine Fork.same ?_; (first | refine fkD ?_ ?_ | refine fkN ?_ ?_ | refine fkM ?_ ?_) <;> intro h) | refine MvQ.stay ?_)
      have : k = L.l.length := by omega
      subst this
      refine rqF 0 _ rfl rfl rfl ?_; (repeat' first | exact rfl | (refine qS ?_; constructor))
end Go.Pw

set_option linter.unusedSimpArgs false
set_option linter.unusedVariables false
namespace Go.Pw
set_option maxRecDepth 2000
open Go Go.Proofs A1 A2 A3 A4
theorem opn_ok {x z : Int} {l : List Lk} {c : List Int} (h : (opn x z l c).2 = 0) : (opn x z l c).1 = ⟨x, z, l, c.map dup⟩ ∧ (opn x z l c).1.Ok := by
  unfold opn at h ⊢
  split
  · rename_i h0
    rw [if_pos h0] at h
    refine ⟨rfl, ?_⟩
    simp only [opE] at h0
    rw [fstE_ok] at h0
    simp only [List.mem_cons, List.not_mem_nil, or_false, forall_eq_or_imp, forall_eq, unl, unb_ok (show (10 : Int) ≠ 0 by decide), decide_eq_true_eq] at h0
    rw [eachE_ok] at h
    refine ⟨lineE_ok.1 h0.1, by simp; omega, fun r hr => ?_⟩
    obtain ⟨n, hn, rfl⟩ := List.mem_map.1 hr
    have := h n hn
    rw [curErr, unl, unb_ok (by decide), decide_eq_true_eq] at this
    exact ⟨this, this, Int.le_refl _⟩
  · rename_i h0
    rw [if_neg h0] at h; exact absurd h h0
theorem lbE_ok {x z : Int} {l : List Lk} {b : List Rg} (h : (lbE x z l b).2 = 0) : (Ln.mk x z l b).Ok := by
  unfold lbE at h
  split at h
  · rename_i h0
    unfold boxE at h
    split at h
    · rename_i h1
      rw [eachE_ok] at h
      refine ⟨lineE_ok.1 h0, h1, fun r hr => ?_⟩
      have := h r hr
      rw [rgErr, fstE_ok] at this
      simp only [List.mem_cons, List.not_mem_nil, or_false, forall_eq_or_imp, forall_eq, unl, unb_ok (show (2 : Int) ≠ 0 by decide), unb_ok (show (9 : Int) ≠ 0 by decide), decide_eq_true_eq] at this
      exact ⟨this.1.1, this.1.2, this.2⟩
    · cases h
  · rename_i h0; exact absurd h h0
/-- A list, or none with an error. -/
abbrev orE {α : Type} (e : Int) (l : List α) : List α := if e = 0 then l else []
theorem C52 {x z : Int} {l : List Lk} {c : List Int} : (l.length ≤ 1000000 ∧ c.length ≤ 1000000) → PFD Tryz.prog 52 [.agg [int x, int z, trs l], .c (ints c)]
    (.tup [.c (prs (orE (opn x z l c).2 (accL (tnF (opn x z l c).1) (opn x z l c).1.l.length))), vi .i64 (opn x z l c).2]) := fun hl => by
  have c1 := C123 (x := x) (z := z) hl
  by_cases h0 : (opn x z l c).2 = 0
  · have c2 := C129 (opn_ok h0).2
    refine pi2 fn52 ?_
    (repeat' first | (refine Owe.same ?_; first | refine Owe.o ?_ | refine Owe.mk ?_ ?_) | (refine Fork.same ?_; (first | refine fkD ?_ ?_ | refine fkN ?_ ?_ | refine fkM ?_ ?_) <;> intro h) | ((first | refine OpsL.same ?_ | refine OpsDL.same ?_); first | refine pK c1 rfl rfl ?_ | refine pK c2 rfl rfl ?_) | refine MvQ.stay ?_)
    · exact absurd h0 h
    · rw [orE, if_pos h0]
      (refine rqK rfl ?_; (repeat' first | exact rfl | (refine qS ?_; constructor)))
      exact h0.symm
  · rw [orE, if_neg h0]
    refine pi2 fn52 ?_
    (repeat' first | (refine Owe.same ?_; first | refine Owe.o ?_ | refine Owe.mk ?_ ?_) | (refine Fork.same ?_; (first | refine fkD ?_ ?_ | refine fkN ?_ ?_ | refine fkM ?_ ?_) <;> intro h) | ((first | refine OpsL.same ?_ | refine OpsDL.same ?_); first | refine pK c1 rfl rfl ?_) | refine MvQ.stay ?_)
    · (refine rqK rfl ?_; (repeat' first | exact rfl | (refine qS ?_; constructor)))
    · exact absurd h h0
end Go.Pw

set_option linter.unusedSimpArgs false
set_option linter.unusedVariables false
namespace Go.Pw
set_option maxRecDepth 2000
open Go Go.Proofs A1 A2 A3 A4
/-- The error of a line that was opened, and of slack. -/
abbrev tgE (o : Ln × Int) : Int := if o.2 = 0 then slkE o.1 else o.2
structure Ln.Tight (L : Ln) : Prop extends L.Ok where
  t : ∀ k, k < L.l.length → 0 < L.pz (k + 1)
theorem slkE_ok {L : Ln} (h : slkE L = 0) : ∀ k, k < L.l.length → 0 < L.pz (k + 1) := by
  unfold slkE at h
  split at h
  · assumption
  · cases h
/-- What a round over the pulls of a tight line knows besides. -/
theorem Ln.Tight.round {L : Ln} (h : L.Tight) {k : Nat} (hk : k < L.l.length) :
    0 < L.pz k + (L.l.getD k (0, 0, 0)).2.1 ∧ (1 ≤ (L.l.getD k (0, 0, 0)).1 ∧ (L.l.getD k (0, 0, 0)).1 ≤ 1000) ∧
    (-20000000 ≤ (L.l.getD k (0, 0, 0)).1 * (L.pl k + (L.l.getD k (0, 0, 0)).2.2 * (L.b.getD k (0, 0)).1) ∧ (L.l.getD k (0, 0, 0)).1 * (L.pl k + (L.l.getD k (0, 0, 0)).2.2 * (L.b.getD k (0, 0)).1) ≤ 20000000) ∧
    (-20000000 ≤ (L.l.getD k (0, 0, 0)).1 * (L.ph k + (L.l.getD k (0, 0, 0)).2.2 * (L.b.getD k (0, 0)).2) ∧ (L.l.getD k (0, 0, 0)).1 * (L.ph k + (L.l.getD k (0, 0, 0)).2.2 * (L.b.getD k (0, 0)).2) ≤ 20000000) := by
  have h1 := (h.toOk.lk hk).1
  have h2 := h.toOk.bd (k + 1) (by omega)
  have h3 := mbd (A := 1000) (B := 20000) (a := L.h k) (b := L.pl (k + 1)) (by omega) h2.1
  have h4 := mbd (A := 1000) (B := 20000) (a := L.h k) (b := L.ph (k + 1)) (by omega) h2.2.1
  refine ⟨h.t k hk, h1, ?_, ?_⟩
  · simp only [Ln.h, Ln.pl, Ln.d, Ln.lo] at h3; omega
  · simp only [Ln.h, Ln.ph, Ln.d, Ln.hi] at h4; omega
abbrev lbF (L : Ln) (i : Nat) : Int := L.h i * L.pl (i + 1) / L.pz (i + 1)
abbrev ubF (L : Ln) (i : Nat) : Int := ceilI (L.h i * L.ph (i + 1)) (L.pz (i + 1))
theorem Ln.Tight.hl {L : Ln} (h : L.Tight) {k : Nat} (hk : k < L.l.length) : -20000000 ≤ L.h k * L.pl (k + 1) ∧ L.h k * L.pl (k + 1) ≤ 20000000 := (h.round hk).2.2.1
theorem Ln.Tight.hh {L : Ln} (h : L.Tight) {k : Nat} (hk : k < L.l.length) : -20000000 ≤ L.h k * L.ph (k + 1) ∧ L.h k * L.ph (k + 1) ≤ 20000000 := (h.round hk).2.2.2
theorem Ln.Tight.lb {L : Ln} (h : L.Tight) {k : Nat} (hk : k < L.l.length) : -20000000 ≤ lbF L k ∧ lbF L k ≤ 20000000 := ediv_bd (h.t k hk) (h.hl hk)
theorem Ln.Tight.ub {L : Ln} (h : L.Tight) {k : Nat} (hk : k < L.l.length) : -20000000 ≤ ubF L k ∧ ubF L k ≤ 20000000 := by
  have h1 := h.hh hk
  have := ediv_bd (a := -(L.h k * L.ph (k + 1))) (M := 20000000) (h.t k hk) (by omega)
  simp only [ubF, ceilI]; omega
theorem C176 {L : Ln} : L.Tight → PFD Tryz.prog 176 [.agg L.v] (.agg [int (sumI (lbF L) L.l.length), int (sumI (ubF L) L.l.length)]) := fun hT => by
  have hL := hT.toOk
  refine pi1 fn176 ?_
  (repeat' first | (refine Owe.same ?_; first | refine Owe.o ?_ | refine Owe.mk ?_ ?_) | (refine Fork.same ?_; (first | refine fkD ?_ ?_ | refine fkN ?_ ?_ | refine fkM ?_ ?_) <;> intro h) | refine MvQ.stay ?_)
  refine Ops.cs rfl rfl (CallS.of fn121 rfl ?_); refine Sat.keep [2, 3, 7] ?_; refine Sat.rf rfl rfl (CallS.of fn208 rfl ?_); (repeat' first | (refine Owe.same ?_; first | refine Owe.o ?_ | refine Owe.mk ?_ ?_) | (refine Fork.same ?_; (first | refine fkD ?_ ?_ | refine fkN ?_ ?_ | refine fkM ?_ ?_) <;> intro h) | refine MvQ.stay ?_)
  refine Sat.lp (fun k : Nat => ⟨[(24, vi .i64 k), (23, vi .i64 L.l.length), (22, .c (trs L.l)), (3, .c (.bp 5 0)), (1, .c (.bp 3 0)), (0, .c (.yd 4))], [(5, .box [int (L.pl k), int (L.ph k), int (L.pz k), int (L.hh k)]), (4, .lp [(2, .c (.bp 1 0)), (3, .c (.bp 2 0)), (7, .c (.fn 208 [3]))] .ready none (RR Tryz.prog 37 [8, 9] ra176 rb176)), (3, .box L.v), (1, .box [int 0, int 0]), (2, .box [int (sumI (lbF L) k), int (sumI (ubF L) k)])], 6⟩)
    (fun k => k ≤ L.l.length) (fun k => L.l.length - k) 0 [5] (Nat.zero_le _) ?_ ?_
  · (refine qis ?_ ?_ <;> (repeat' first | exact rfl | (refine qS ?_; constructor)))
  · intro k hk
    refine Fork.dec (fun hlt => ?_) (fun hlt => ?_)
    · have hlt : k < L.l.length := by omega
      have hrd := hL.round hlt
      have hrt := hT.round hlt
      have s1 := sumI_bd (f := lbF L) (n := L.l.length) (M := 20000000) (fun k hk => hT.lb hk) k hk
      have s2 := sumI_bd (f := ubF L) (n := L.l.length) (M := 20000000) (fun k hk => hT.ub hk) k hk
      have b1 := hT.lb hlt
      have b2 := hT.ub hlt
      simp only [lbF, ubF, Ln.h, Ln.pl, Ln.ph, Ln.pz, Ln.d, Ln.w, Ln.lo, Ln.hi] at b1 b2
      (repeat' first | (refine Owe.same ?_; first | refine Owe.o ?_ | refine Owe.mk ?_ ?_) | (refine Fork.same ?_; (first | refine fkD ?_ ?_ | refine fkN ?_ ?_ | refine fkM ?_ ?_) <;> intro h) | refine MvQ.stay ?_)
      refine Ops.yd rfl rfl rfl rfl rfl ?_
      (repeat' first | (refine Owe.same ?_; first | refine Owe.o ?_ | refine Owe.mk ?_ ?_) | (refine Fork.same ?_; (first | refine fkD ?_ ?_ | refine fkN ?_ ?_ | refine fkM ?_ ?_) <;> intro h) | refine MvQ.stay ?_)
      refine And.intro rfl (Exists.intro _ (And.intro rfl ?_))
      (repeat' first | (refine Owe.same ?_; first | refine Owe.o ?_ | refine Owe.mk ?_ ?_) | (refine Fork.same ?_; (first | refine fkD ?_ ?_ | refine fkN ?_ ?_ | refine fkM ?_ ?_) <;> intro h) | ((first | refine OpsL.same ?_ | refine OpsDL.same ?_); first | refine pK C236 rfl rfl ?_ | refine pK C237 rfl rfl ?_) | refine MvQ.stay ?_)
      refine Exists.intro _ (Exists.intro _ (Exists.intro _ (And.intro rfl ?_)))
      (repeat' first | (refine Owe.same ?_; first | refine Owe.o ?_ | refine Owe.mk ?_ ?_) | (refine Fork.same ?_; (first | refine fkD ?_ ?_ | refine fkN ?_ ?_ | refine fkM ?_ ?_) <;> intro h) | refine MvQ.stay ?_)
      refine again (k + 1) [5] hlt (by omega) ?_
      (refine qis ?_ ?_ <;> (repeat' first | exact rfl | (refine qS ?_; constructor)))
    · (repeat' first | (refine Owe.same ?_; first | refine Owe.o ?_ | refine Owe.mk ?_ ?_) | (refine Fork.same ?_; (first | refine fkD ?_ ?_ | refine fkN ?_ ?_ | refine fkM ?_ ?_) <;> intro h) | refine MvQ.stay ?_)
      have : k = L.l.length := by omega
      subst this
      (refine rqK rfl ?_; (repeat' first | exact rfl | (refine qS ?_; constructor)))
abbrev orP (e : Int) (p : Rg) : Rg := if e = 0 then p else (0, 0)
abbrev laybk (L : Ln) : Rg := (sumI (lbF L) L.l.length, sumI (ubF L) L.l.length)
theorem tgE_ok {o : Ln × Int} (h0 : tgE o = 0) (h : o.2 = 0 → o.1.Ok) : o.1.Tight := by
  unfold tgE at h0
  split at h0
  · rename_i h1; exact ⟨h h1, slkE_ok h0⟩
  · rename_i h1; exact absurd h0 h1
/-- A box that was checked. -/
abbrev opb (x z : Int) (l : List Lk) (b : List Rg) : Ln × Int := (⟨x, z, l, b⟩, (lbE x z l b).2)
theorem C87 {x z : Int} {l : List Lk} {b : List Rg} : (l.length ≤ 1000000 ∧ b.length ≤ 1000000) → PFD Tryz.prog 87 [.agg [int x, int z, trs l], .c (prs b)]
    (.tup [.agg [int (orP (tgE (opb x z l b)) (laybk (opb x z l b).1)).1, int (orP (tgE (opb x z l b)) (laybk (opb x z l b).1)).2], vi .i64 (tgE (opb x z l b))]) := fun hl => by
  have c1 := C120 (x := x) (z := z) hl
  have c2 := C136 (L := (opb x z l b).1) (e := (opb x z l b).2) (fun h => lbE_ok h)
  by_cases h0 : tgE (opb x z l b) = 0
  · have c3 := C176 (tgE_ok h0 fun h => lbE_ok h)
    rw [orP, if_pos h0]
    refine pi2 fn87 ?_
    (repeat' first | (refine Owe.same ?_; first | refine Owe.o ?_ | refine Owe.mk ?_ ?_) | (refine Fork.same ?_; (first | refine fkD ?_ ?_ | refine fkN ?_ ?_ | refine fkM ?_ ?_) <;> intro h) | ((first | refine OpsL.same ?_ | refine OpsDL.same ?_); first | refine pK c1 rfl rfl ?_ | refine pK c2 rfl rfl ?_ | refine pK c3 rfl rfl ?_) | refine MvQ.stay ?_)
    · exact absurd h0 h
    · (refine rqK rfl ?_; (repeat' first | exact rfl | (refine qS ?_; constructor)))
      exact h0.symm
  · rw [orP, if_neg h0]
    refine pi2 fn87 ?_
    (repeat' first | (refine Owe.same ?_; first | refine Owe.o ?_ | refine Owe.mk ?_ ?_) | (refine Fork.same ?_; (first | refine fkD ?_ ?_ | refine fkN ?_ ?_ | refine fkM ?_ ?_) <;> intro h) | ((first | refine OpsL.same ?_ | refine OpsDL.same ?_); first | refine pK c1 rfl rfl ?_ | refine pK c2 rfl rfl ?_) | refine MvQ.stay ?_)
    · (refine rqK rfl ?_; (repeat' first | exact rfl | (refine qS ?_; constructor)))
    · exact absurd h h0
end Go.Pw

set_option linter.unusedSimpArgs false
set_option linter.unusedVariables false
namespace Go.Pw
set_option maxRecDepth 2000
open Go Go.Proofs A1 A2 A3 A4
theorem Ln.Tight.z {L : Ln} (h : L.Tight) {k : Nat} (hk : k < L.l.length) : 0 < L.pz (k + 1) ∧ L.pz (k + 1) ≤ 20000 := ⟨h.t k hk, (h.toOk.bd (k + 1) (by omega)).2.2.2⟩
end Go.Pw

set_option linter.unusedSimpArgs false
set_option linter.unusedVariables false
namespace Go.Pw
set_option maxRecDepth 2000
open Go Go.Proofs A1 A2 A3 A4
def idxI {α : Type} (f : α → Bool) : Nat → List α → Int
  | _, [] => -1
  | k, x :: l => if f x = true then (k : Int) else idxI f (k + 1) l
theorem idxI_drop {α : Type} (f : α → Bool) (d : α) (l : List α) (k : Nat) (h : k < l.length) : idxI f k (l.drop k) = if f (l.getD k d) = true then (k : Int) else idxI f (k + 1) (l.drop (k + 1)) := by
  rw [List.drop_eq_getElem_cons h, idxI, List.getD_eq_getElem?_getD, List.getElem?_eq_getElem h]
  rfl
theorem idxI_nn {α : Type} {f : α → Bool} : ∀ {l : List α} {k : Nat}, 0 ≤ idxI f k l ↔ ∃ x ∈ l, f x = true
  | [], k => by simp [idxI]
  | x :: l, k => by
    rw [idxI]
    split
    · rename_i h; simp [h]
    · rename_i h; rw [idxI_nn (l := l)]; simp [h]
theorem C270 {g : FuncId} {f : Rg → Bool} (hg : ∀ x : Rg, PFD Tryz.prog g [.agg [int x.1, int x.2]] (vbl (f x))) {l : List Rg} : l.length ≤ 1000000 → PFD Tryz.prog 270 [.c (prs l), .c (.fn g [])] (vi .i64 (idxI f 0 l)) := fun hl => by
  refine pi1 fn270 ?_
  (repeat' first | (refine Owe.same ?_; first | refine Owe.o ?_ | refine Owe.mk ?_ ?_) | (refine Fork.same ?_; (first | refine fkD ?_ ?_ | refine fkN ?_ ?_ | refine fkM ?_ ?_) <;> intro h) | refine MvQ.stay ?_)
  refine Sat.lp0 (fun k : Nat => [(8, vi .i64 k), (7, vi .i64 l.length), (6, .c (prs l)), (0, .c (prs l)), (1, .c (.fn g []))]) (fun k => k ≤ l.length ∧ idxI f 0 l = idxI f k (l.drop k)) (fun k => l.length - k) 0 ⟨Nat.zero_le _, rfl⟩ (by ((first | refine qen ?_ | refine qvs ?_ | refine qeq ?_ | refine qst ?_ | refine qv ?_ | refine qc ?_ | refine qe ?_ | refine qcs ?_ | skip); (repeat' first | exact rfl | (refine qS ?_; constructor)))) ?_
  intro k hk
  (repeat' first | (refine Owe.same ?_; first | refine Owe.o ?_ | refine Owe.mk ?_ ?_) | (refine Fork.same ?_; (first | refine fkD ?_ ?_ | refine fkN ?_ ?_ | refine fkM ?_ ?_) <;> intro h) | ((first | refine OpsL.same ?_ | refine OpsDL.same ?_); first | refine pK (hg _) rfl rfl ?_) | refine MvQ.stay ?_)
  · have e := idxI_drop f (0, 0) l k (by omega)
    have h : f (l.getD k (0, 0)) = true := h
    rw [if_pos h, ← hk.2] at e
    (refine rqK rfl ?_; (repeat' first | exact rfl | (refine qS ?_; constructor))); rw [e]
  · have e := idxI_drop f (0, 0) l k (by omega)
    have h : ¬ f (l.getD k (0, 0)) = true := by rw [show f (l.getD k (0, 0)) = false from h]; simp
    rw [if_neg h, ← hk.2] at e
    exact again0 (k + 1) ⟨by omega, e⟩ (by omega) (by ((first | refine qen ?_ | refine qvs ?_ | refine qeq ?_ | refine qst ?_ | refine qv ?_ | refine qc ?_ | refine qe ?_ | refine qcs ?_ | skip); (repeat' first | exact rfl | (refine qS ?_; constructor))))
  · (refine rqK rfl ?_; (repeat' first | exact rfl | (refine qS ?_; constructor)))
    rw [hk.2, List.drop_of_length_le (by omega)]; rfl
abbrev oddP (x : Rg) : Bool := !decide (isPl x)
abbrev plAll (l : List Rg) : Prop := ∀ x ∈ l, isPl x
theorem C240 {l : List Rg} : l.length ≤ 1000000 → PFD Tryz.prog 240 [.c (prs l), .c (.fn 241 [])] (vbl (!decide (plAll l))) := fun hl => by
  have c1 := C270 (fun x => C241 (p := x)) hl
  refine pi1 fn240 ?_
  (repeat' first | (refine Owe.same ?_; first | refine Owe.o ?_ | refine Owe.mk ?_ ?_) | (refine Fork.same ?_; (first | refine fkD ?_ ?_ | refine fkN ?_ ?_ | refine fkM ?_ ?_) <;> intro h) | ((first | refine OpsL.same ?_ | refine OpsDL.same ?_); first | refine pK c1 rfl rfl ?_) | refine MvQ.stay ?_)
  (refine rqK rfl ?_; (repeat' first | exact rfl | (refine qS ?_; constructor)))
  rw [Bool.eq_iff_iff]
  simp only [decide_eq_true_eq, idxI_nn, Bool.not_eq_true', decide_eq_false_iff_not, plAll, oddP]
  constructor
  · rintro ⟨x, hx, h⟩ ha; exact h (ha x hx)
  · intro h; exact Classical.byContradiction fun hn => h fun x hx => Classical.byContradiction fun hp => hn ⟨x, hx, hp⟩
/-- The error of a path. -/
def pthE (l : List Rg) : Int := fstE [unl (0 < (l.length : Int)) 10, unl ((l.length : Int) ≤ 30) 8, unl (plAll l) 2]
theorem C179 {l : List Rg} : l.length ≤ 1000000 → PFD Tryz.prog 179 [.c (prs l)] (vi .i64 (pthE l)) := fun hl => by
  have c1 := C240 hl
  refine pi1 fn179 ?_
  (repeat' first | (refine Owe.same ?_; first | refine Owe.o ?_ | refine Owe.mk ?_ ?_) | (refine Fork.same ?_; (first | refine fkD ?_ ?_ | refine fkN ?_ ?_ | refine fkM ?_ ?_) <;> intro h) | ((first | refine OpsL.same ?_ | refine OpsDL.same ?_); first | refine pK c1 rfl rfl ?_ | refine pK C125 rfl rfl ?_ | refine pK C124 rfl rfl ?_) | refine MvQ.stay ?_)
  (refine rqK rfl ?_; (repeat' first | exact rfl | (refine qS ?_; constructor)))
  simp [pthE]
/-- A valid path. -/
structure PthOk (l : List Rg) : Prop where
  n : 0 < l.length ∧ l.length ≤ 30
  p : plAll l
theorem pthE_ok {l : List Rg} : pthE l = 0 ↔ PthOk l := by
  unfold pthE
  rw [fstE_ok]
  simp only [List.mem_cons, List.not_mem_nil, or_false, forall_eq_or_imp, forall_eq, unl, unb_ok (show (2 : Int) ≠ 0 by decide), unb_ok (show (10 : Int) ≠ 0 by decide), unb_ok (show (8 : Int) ≠ 0 by decide), decide_eq_true_eq]
  exact ⟨fun h => ⟨by omega, h.2.2⟩, fun h => ⟨by have := h.n; omega, by have := h.n; omega, h.p⟩⟩
abbrev sideI (a b q : Rg) : Int := (b.1 - a.1) * (q.2 - a.2) - (b.2 - a.2) * (q.1 - a.1)
theorem side_bd {a b q : Rg} (ha : isPl a) (hb : isPl b) (hq : isPl q) : (-400000000 ≤ (b.1 - a.1) * (q.2 - a.2) ∧ (b.1 - a.1) * (q.2 - a.2) ≤ 400000000) ∧ -400000000 ≤ (b.2 - a.2) * (q.1 - a.1) ∧ (b.2 - a.2) * (q.1 - a.1) ≤ 400000000 := by
  obtain ⟨h1, h2⟩ := ha
  obtain ⟨h3, h4⟩ := hb
  obtain ⟨h5, h6⟩ := hq
  exact ⟨mbd (A := 20000) (B := 20000) (by omega) (by omega), mbd (A := 20000) (B := 20000) (by omega) (by omega)⟩
abbrev inB (a b q : Rg) : Prop := (min a.1 b.1 ≤ q.1 ∧ q.1 ≤ max a.1 b.1) ∧ min a.2 b.2 ≤ q.2 ∧ q.2 ≤ max a.2 b.2
abbrev onI (a b q : Rg) : Prop := sideI a b q = 0 ∧ inB a b q
abbrev stpI (a b q : Rg) : Int := if a.2 ≤ q.2 ∧ q.2 < b.2 ∧ 0 < sideI a b q then 1 else if b.2 ≤ q.2 ∧ q.2 < a.2 ∧ sideI a b q < 0 then -1 else 0
/-- Way k of a closed path. -/
abbrev wyA (l : List Rg) (k : Nat) : Rg := l.getD k (0, 0)
abbrev wyB (l : List Rg) (k : Nat) : Rg := l.getD ((k + 1) % l.length) (0, 0)
def sumP (f : Nat → Int) : Nat → Int
  | 0 => 0
  | k + 1 => sumP f k + f k
def wndI (l : List Rg) (q : Rg) : Int := sumP (fun k => stpI (wyA l k) (wyB l k) q) l.length
def noOn (l : List Rg) (q : Rg) : Prop := ∀ k, k < l.length → ¬ onI (wyA l k) (wyB l k) q
instance (l : List Rg) (q : Rg) : Decidable (noOn l q) := inferInstanceAs (Decidable (∀ k, k < l.length → ¬ onI (wyA l k) (wyB l k) q))
theorem C272 {p q : Rg} : (isPl p ∧ isPl q) → PFD Tryz.prog 272 [.agg [int p.1, int p.2], .agg [int q.1, int q.2]] (.agg [int (p.1 - q.1), int (p.2 - q.2)]) := fun h => by
  refine pi1 fn272 ?_
  (repeat' first | (refine Owe.same ?_; first | refine Owe.o ?_ | refine Owe.mk ?_ ?_) | (refine Fork.same ?_; (first | refine fkD ?_ ?_ | refine fkN ?_ ?_ | refine fkM ?_ ?_) <;> intro h) | refine MvQ.stay ?_)
  (refine rqK rfl ?_; (repeat' first | exact rfl | (refine qS ?_; constructor)))
theorem C273 {a b c d : Int} : ((-20000 ≤ a ∧ a ≤ 20000) ∧ (-20000 ≤ b ∧ b ≤ 20000) ∧ (-20000 ≤ c ∧ c ≤ 20000) ∧ -20000 ≤ d ∧ d ≤ 20000) → PFD Tryz.prog 273 [.agg [int a, int b], .agg [int c, int d]] (vi .i64 (a * d - b * c)) := fun h => by
  have h1 := mbd (A := 20000) (B := 20000) h.1 h.2.2.2
  have h2 := mbd (A := 20000) (B := 20000) h.2.1 h.2.2.1
  refine pi1 fn273 ?_
  (repeat' first | (refine Owe.same ?_; first | refine Owe.o ?_ | refine Owe.mk ?_ ?_) | (refine Fork.same ?_; (first | refine fkD ?_ ?_ | refine fkN ?_ ?_ | refine fkM ?_ ?_) <;> intro h) | refine MvQ.stay ?_)
  (refine rqK rfl ?_; (repeat' first | exact rfl | (refine qS ?_; constructor)))
end Go.Pw

set_option linter.unusedSimpArgs false
set_option linter.unusedVariables false
namespace Go.Pw
set_option maxRecDepth 2000
open Go Go.Proofs A1 A2 A3 A4
theorem sumP_bd {f : Nat → Int} (h : ∀ k, -1 ≤ f k ∧ f k ≤ 1) : ∀ k : Nat, -(k : Int) ≤ sumP f k ∧ sumP f k ≤ k
  | 0 => by simp [sumP]
  | k + 1 => by have := sumP_bd h k; have := h k; simp only [sumP]; omega
theorem stp_bd (a b q : Rg) : -1 ≤ stpI a b q ∧ stpI a b q ≤ 1 := by unfold stpI; split <;> (try split) <;> omega
theorem pl_getD {l : List Rg} (h : plAll l) {k : Nat} (hk : k < l.length) : isPl (l.getD k (0, 0)) := h _ (getD_mem _ hk)
set_option maxHeartbeats 4000000 in
theorem C243 {l : List Rg} {q : Rg} : (l.length ≤ 1000000 ∧ plAll l ∧ isPl q) → PFD Tryz.prog 243 [.c (prs l), .agg [int q.1, int q.2]] (.tup [vi .i64 (if noOn l q then wndI l q else 0), vbl (decide (noOn l q))]) := fun ⟨hl, hp, hq⟩ => by
  refine pi2 fn243 ?_
  (repeat' first | (refine Owe.same ?_; first | refine Owe.o ?_ | refine Owe.mk ?_ ?_) | (refine Fork.same ?_; (first | refine fkD ?_ ?_ | refine fkN ?_ ?_ | refine fkM ?_ ?_) <;> intro h) | refine MvQ.stay ?_)
  refine Ops.cs rfl rfl (CallS.of fn271 rfl ?_)
  (repeat' first | (refine Owe.same ?_; first | refine Owe.o ?_ | refine Owe.mk ?_ ?_) | (refine Fork.same ?_; (first | refine fkD ?_ ?_ | refine fkN ?_ ?_ | refine fkM ?_ ?_) <;> intro h) | refine MvQ.stay ?_)
  refine Sat.keep [3, 4, 5, 6, 12] ?_
  refine Sat.rf rfl rfl (CallS.of fn295 rfl ?_)
  (repeat' first | (refine Owe.same ?_; first | refine Owe.o ?_ | refine Owe.mk ?_ ?_) | (refine Fork.same ?_; (first | refine fkD ?_ ?_ | refine fkN ?_ ?_ | refine fkM ?_ ?_) <;> intro h) | refine MvQ.stay ?_)
  refine Sat.lp (fun k : Nat => ⟨[(7, vi .i64 k), (6, vi .i64 l.length), (5, .c (prs l)), (0, .c (.yd 5)), (1, .c (.bp 4 0))], [(5, .lp [(3, .c (.bp 0 0)), (4, .c (.bp 1 0)), (5, .c (.bp 2 0)), (6, .c (.bp 3 0)), (12, .c (.fn 295 [4]))] .ready none (RR Tryz.prog 95 [13, 14] ra243 rb243)), (4, .box [prs l]), (3, .box [int (sumP (fun k => stpI (wyA l k) (wyB l k) q) k)]), (2, .box [.d (.v (.bool false))]), (1, .box [int 0]), (0, .box [int q.1, int q.2])], 6⟩)
    (fun k => k ≤ l.length ∧ ∀ i, i < k → ¬ onI (wyA l i) (wyB l i) q) (fun k => l.length - k) 0 [] ⟨Nat.zero_le _, fun i hi => absurd hi (Nat.not_lt_zero _)⟩ ?_ ?_
  · (refine qis ?_ ?_ <;> (repeat' first | exact rfl | (refine qS ?_; constructor)))
  · intro k hk
    refine Fork.dec (fun hlt => ?_) (fun hlt => ?_)
    · have hlt : k < l.length := by omega
      have hm : (k + 1) % l.length < l.length := Nat.mod_lt _ (by omega)
      have htm : ((k : Int) + 1).tmod (l.length : Int) = (((k + 1) % l.length : Nat) : Int) := by rw [Int.tmod_eq_emod_of_nonneg (by omega)]; rfl
      have htb : 0 ≤ ((k : Int) + 1).tmod (l.length : Int) ∧ ((k : Int) + 1).tmod (l.length : Int) < l.length := by rw [htm]; omega
      have hw : l.getD (((k : Int) + 1).tmod (l.length : Int)).toNat (0, 0) = wyB l k := by rw [htm]; rfl
      have hon : onI (wyA l k) (wyB l k) q ↔ onI (l.getD (k : Int).toNat (0, 0)) (l.getD (((k : Int) + 1).tmod (l.length : Int)).toNat (0, 0)) q := by rw [hw]; exact Iff.rfl
      have hst : sumP (fun k => stpI (wyA l k) (wyB l k) q) (k + 1) = sumP (fun k => stpI (wyA l k) (wyB l k) q) k + stpI (l.getD (k : Int).toNat (0, 0)) (l.getD (((k : Int) + 1).tmod (l.length : Int)).toNat (0, 0)) q := by rw [hw]; rfl
      have ha := pl_getD hp hlt
      have hb : isPl (l.getD (((k : Int) + 1).tmod (l.length : Int)).toNat (0, 0)) := by rw [hw]; exact pl_getD hp hm
      have hs := side_bd ha hb hq
      have hsu := sumP_bd (f := fun k => stpI (wyA l k) (wyB l k) q) (fun k => stp_bd _ _ _) k
      have ha0 := ha
      have hb0 := hb
      have hq0 := hq
      obtain ⟨ha1, ha2⟩ := ha
      obtain ⟨hb1, hb2⟩ := hb
      obtain ⟨hq1, hq2⟩ := hq
      (repeat' first | (refine Owe.same ?_; first | refine Owe.o ?_ | refine Owe.mk ?_ ?_) | (refine Fork.same ?_; (first | refine fkD ?_ ?_ | refine fkN ?_ ?_ | refine fkM ?_ ?_) <;> intro h) | refine MvQ.stay ?_)
      refine OpsD.seq' (by rfl) (by rfl) ?_
      refine Ops.yd rfl rfl rfl rfl rfl ?_
      (repeat' first | (refine Owe.same ?_; first | refine Owe.o ?_ | refine Owe.mk ?_ ?_) | (refine Fork.same ?_; (first | refine fkD ?_ ?_ | refine fkN ?_ ?_ | refine fkM ?_ ?_) <;> intro h) | refine MvQ.stay ?_)
      refine And.intro rfl (Exists.intro _ (And.intro rfl ?_))
      (repeat' first | (refine Owe.same ?_; first | refine Owe.o ?_ | refine Owe.mk ?_ ?_) | (refine Fork.same ?_; (first | refine fkD ?_ ?_ | refine fkN ?_ ?_ | refine fkM ?_ ?_) <;> intro h) | ((first | refine OpsL.same ?_ | refine OpsDL.same ?_); first | refine pK C272 rfl rfl ?_ | refine pK C273 rfl rfl ?_ | refine pK C128 rfl rfl ?_) | refine MvQ.stay ?_)
      all_goals (refine Exists.intro _ (Exists.intro _ (Exists.intro _ (And.intro rfl ?_))); (repeat' first | (refine Owe.same ?_; first | refine Owe.o ?_ | refine Owe.mk ?_ ?_) | (refine Fork.same ?_; (first | refine fkD ?_ ?_ | refine fkN ?_ ?_ | refine fkM ?_ ?_) <;> intro h) | refine MvQ.stay ?_))
      · (refine rqK rfl ?_; (repeat' first | exact rfl | (refine qS ?_; constructor)))
        · rw [if_neg (fun hn => hn k hlt (hon.2 (by simp only [onI, inB, sideI]; omega)))]
        · exact decide_eq_false fun (hn : noOn l q) => hn k hlt (hon.2 (by simp only [onI, inB, sideI]; omega))
      all_goals
        clear hs hsu ha0 hb0 hq0 ha1 ha2 hb1 hb2 hq1 hq2 htb
        refine again (k + 1) [] ⟨hlt, fun i hi => ?_⟩ (by omega) ?_
        · rcases Nat.lt_succ_iff_lt_or_eq.1 hi with h4 | rfl
          · exact hk.2 i h4
          · rw [hon]; simp only [onI, inB, sideI]; omega
        · (refine qis ?_ ?_ <;> (repeat' first | exact rfl | (refine qS ?_; constructor)))
          rw [hst]; unfold stpI sideI; split <;> (try split) <;> omega
    · (repeat' first | (refine Owe.same ?_; first | refine Owe.o ?_ | refine Owe.mk ?_ ?_) | (refine Fork.same ?_; (first | refine fkD ?_ ?_ | refine fkN ?_ ?_ | refine fkM ?_ ?_) <;> intro h) | refine MvQ.stay ?_)
      have : k = l.length := by omega
      subst this
      have hn : noOn l q := hk.2
      (refine rqK rfl ?_; (repeat' first | exact rfl | (refine qS ?_; constructor)))
      · rw [if_pos hn]; rfl
      · exact decide_eq_true hn
end Go.Pw

set_option linter.unusedSimpArgs false
set_option linter.unusedVariables false
namespace Go.Pw
set_option maxRecDepth 2000
open Go Go.Proofs A1 A2 A3 A4
/-- The error of a post. -/
def postE (l : List Rg) (q : Rg) : Int := if isPl q then (if noOn l q then 0 else 13) else 2
theorem C180 {l : List Rg} {q : Rg} : (l.length ≤ 1000000 ∧ plAll l) → PFD Tryz.prog 180 [.c (prs l), .agg [int q.1, int q.2]] (.tup [vi .i64 (if postE l q = 0 then wndI l q else 0), vi .i64 (postE l q)]) := fun ⟨hl, hp⟩ => by
  by_cases hq : isPl q
  · have c1 := C243 ⟨hl, hp, hq⟩
    refine pi2 fn180 ?_
    (repeat' first | (refine Owe.same ?_; first | refine Owe.o ?_ | refine Owe.mk ?_ ?_) | (refine Fork.same ?_; (first | refine fkD ?_ ?_ | refine fkN ?_ ?_ | refine fkM ?_ ?_) <;> intro h) | ((first | refine OpsL.same ?_ | refine OpsDL.same ?_); first | refine pK C242 rfl rfl ?_ | refine pK c1 rfl rfl ?_ | refine pK C125 rfl rfl ?_) | refine MvQ.stay ?_)
    · exact absurd hq h
    · by_cases hn : noOn l q
      · have e : postE l q = 0 := by simp only [postE]; rw [if_pos hq, if_pos hn]
        (refine rqK rfl ?_; (repeat' first | exact rfl | (refine qS ?_; constructor)))
        · rw [if_pos hn, if_pos e]
        · rw [e]; simp [unb, hn]
      · have e : postE l q = 13 := by simp only [postE]; rw [if_pos hq, if_neg hn]
        (refine rqK rfl ?_; (repeat' first | exact rfl | (refine qS ?_; constructor)))
        · rw [if_neg hn, e]; rfl
        · rw [e]; simp [unb, hn]
  · have e : postE l q = 2 := by simp only [postE]; rw [if_neg hq]
    refine pi2 fn180 ?_
    (repeat' first | (refine Owe.same ?_; first | refine Owe.o ?_ | refine Owe.mk ?_ ?_) | (refine Fork.same ?_; (first | refine fkD ?_ ?_ | refine fkN ?_ ?_ | refine fkM ?_ ?_) <;> intro h) | ((first | refine OpsL.same ?_ | refine OpsDL.same ?_); first | refine pK C242 rfl rfl ?_) | refine MvQ.stay ?_)
    · (refine rqK rfl ?_; (repeat' first | exact rfl | (refine qS ?_; constructor)))
      · rw [e]; rfl
      · rw [e]
    · exact absurd h hq
def wofE (l : List Rg) (q : Rg) : Int := if pthE l = 0 then postE l q else pthE l
theorem C90 {l : List Rg} {q : Rg} : l.length ≤ 1000000 → PFD Tryz.prog 90 [.c (prs l), .agg [int q.1, int q.2]] (.tup [vi .i64 (if wofE l q = 0 then wndI l q else 0), vi .i64 (wofE l q)]) := fun hl => by
  have c1 := C179 hl
  by_cases h0 : pthE l = 0
  · have c2 := C180 (q := q) ⟨hl, (pthE_ok.1 h0).p⟩
    rw [wofE, if_pos h0]
    refine pi2 fn90 ?_
    (repeat' first | (refine Owe.same ?_; first | refine Owe.o ?_ | refine Owe.mk ?_ ?_) | (refine Fork.same ?_; (first | refine fkD ?_ ?_ | refine fkN ?_ ?_ | refine fkM ?_ ?_) <;> intro h) | ((first | refine OpsL.same ?_ | refine OpsDL.same ?_); first | refine pK c1 rfl rfl ?_ | refine pK c2 rfl rfl ?_) | refine MvQ.stay ?_)
    · exact absurd h0 h
    · (refine rqK rfl ?_; (repeat' first | exact rfl | (refine qS ?_; constructor)))
  · rw [wofE, if_neg h0]
    refine pi2 fn90 ?_
    (repeat' first | (refine Owe.same ?_; first | refine Owe.o ?_ | refine Owe.mk ?_ ?_) | (refine Fork.same ?_; (first | refine fkD ?_ ?_ | refine fkN ?_ ?_ | refine fkM ?_ ?_) <;> intro h) | ((first | refine OpsL.same ?_ | refine OpsDL.same ?_); first | refine pK c1 rfl rfl ?_) | refine MvQ.stay ?_)
    · (refine rqK rfl ?_; (repeat' first | exact rfl | (refine qS ?_; constructor)))
      exact (if_neg h0).symm
    · exact absurd h h0
end Go.Pw

set_option linter.unusedSimpArgs false
set_option linter.unusedVariables false
namespace Go.Pw
set_option maxRecDepth 2000
open Go Go.Proofs A1 A2 A3 A4
abbrev sqI (a : Rg) : Int := a.1 * a.1 + a.2 * a.2
theorem C130 {a : Rg} : ((-20000 ≤ a.1 ∧ a.1 ≤ 20000) ∧ -20000 ≤ a.2 ∧ a.2 ≤ 20000) → PFD Tryz.prog 130 [.agg [int a.1, int a.2]] (vi .i64 (sqI a)) := fun h => by
  have h1 := mbd (A := 20000) (B := 20000) h.1 h.1
  have h2 := mbd (A := 20000) (B := 20000) h.2 h.2
  refine pi1 fn130 ?_
  (repeat' first | (refine Owe.same ?_; first | refine Owe.o ?_ | refine Owe.mk ?_ ?_) | (refine Fork.same ?_; (first | refine fkD ?_ ?_ | refine fkN ?_ ?_ | refine fkM ?_ ?_) <;> intro h) | refine MvQ.stay ?_)
  (refine rqK rfl ?_; (repeat' first | exact rfl | (refine qS ?_; constructor)))
theorem mul_self_nn (a : Int) : 0 ≤ a * a := by
  rcases Int.le_total 0 a with h | h
  · exact Int.mul_nonneg h h
  · exact Int.mul_nonneg_of_nonpos_of_nonpos h h
abbrev tnOk (a : Rg) : Prop := (-20000 ≤ a.1 ∧ a.1 ≤ 20000) ∧ 0 < a.2 ∧ a.2 ≤ 20000
theorem sq_bd {a : Rg} (h : tnOk a) : 0 < sqI a ∧ sqI a ≤ 800000000 := by
  have h1 := mbd (A := 20000) (B := 20000) h.1 h.1
  have h2 := mbd (A := 20000) (B := 20000) (a := a.2) (b := a.2) (by omega) (by omega)
  have h3 : 0 ≤ a.1 * a.1 := mul_self_nn _
  have h4 : 0 < a.2 * a.2 := Int.mul_pos h.2.1 h.2.1
  simp only [sqI]; omega
theorem accL_get {α : Type} (f : Nat → α) {d : α} {n i : Nat} (h : i < n) : (accL f n).getD i d = f i := by
  simp [accL, List.getD_eq_getElem?_getD, h]
abbrev trnI (a b : Rg) : Int := b.1 * a.2 - a.1 * b.2
abbrev bendF (a b : Rg) : Rg := frac (trnI a b * trnI a b) (sqI a * sqI b)
abbrev bdF (l : List Rg) (i : Nat) : Rg := bendF (l.getD (i + 1) (0, 0)) (l.getD i (0, 0))
def bdL (l : List Rg) : List Rg := accL (bdF l) (l.length - 1)
theorem C177 {x z : Int} {l : List Lk} {c : List Int} : (l.length ≤ 1000000 ∧ c.length ≤ 1000000) → PFD Tryz.prog 177 [.agg [int x, int z, trs l], .c (ints c)]
    (.tup [.c (prs (orE (tgE (opn x z l c)) (bdL (accL (tnF (opn x z l c).1) (opn x z l c).1.l.length)))), vi .i64 (tgE (opn x z l c))]) := fun hl => by
  have c1 := C123 (x := x) (z := z) hl
  have c2 := C136 (L := (opn x z l c).1) (e := (opn x z l c).2) (fun h => (opn_ok h).2)
  by_cases h0 : tgE (opn x z l c) = 0
  · have hT : (opn x z l c).1.Tight := by
      unfold tgE at h0
      split at h0
      · rename_i h1; exact ⟨(opn_ok h1).2, slkE_ok h0⟩
      · rename_i h1; exact absurd h0 h1
    rw [orE, if_pos h0]
    obtain ⟨L, hLe⟩ : ∃ L, L = (opn x z l c).1 := ⟨_, rfl⟩
    rw [← hLe] at hT ⊢
    have hL := hT.toOk
    have c3 := C129 hL
    obtain ⟨T, hTe⟩ : ∃ T, T = accL (tnF L) L.l.length := ⟨_, rfl⟩
    rw [← hTe] at c3 ⊢
    have hTl : T.length = L.l.length := by rw [hTe, accL_len]
    have hT0 : 0 < T.length ∧ T.length ≤ 10 := by rw [hTl]; exact hL.k.n
    have hTb : ∀ i, i < T.length → tnOk (T.getD i (0, 0)) := fun i hi => by
      rw [hTe, accL_get _ (by omega)]
      have h1 := hL.bd (i + 1) (by omega)
      have h2 := hT.t i (by omega)
      exact ⟨h1.1, h2, h1.2.2.2⟩
    refine pi2 fn177 ?_
    (repeat' first | (refine Owe.same ?_; first | refine Owe.o ?_ | refine Owe.mk ?_ ?_) | (refine Fork.same ?_; (first | refine fkD ?_ ?_ | refine fkN ?_ ?_ | refine fkM ?_ ?_) <;> intro h) | ((first | refine OpsL.same ?_ | refine OpsDL.same ?_); first | refine pK c1 rfl rfl ?_ | refine pK c2 rfl rfl ?_) | refine MvQ.stay ?_)
    · exact absurd h0 h
    rw [← hLe]
    (repeat' first | (refine Owe.same ?_; first | refine Owe.o ?_ | refine Owe.mk ?_ ?_) | (refine Fork.same ?_; (first | refine fkD ?_ ?_ | refine fkN ?_ ?_ | refine fkM ?_ ?_) <;> intro h) | ((first | refine OpsL.same ?_ | refine OpsDL.same ?_); first | refine pK c3 rfl rfl ?_) | refine MvQ.stay ?_)
    refine Sat.nilS 8 104 2 (fun i => r2 (([] : List Rg).getD i (0, 0))) rfl ?_
    refine Sat.lp (fun k : Nat => ⟨[(31, vi .i64 k), (30, vi .i64 ((T.length - 1 : Nat) : Int)), (29, .c (.d (.sl 2 (T.length - 1) fun i => r2 (T.getD (1 + i) (0, 0))))), (9, .c (prs T)), (8, .c (.ms 2 (accL (bdF T) k).length))], [(2, rowv 104 2 r2 (0, 0) (accL (bdF T) k)), (1, .box [int L.x, int L.z, trs L.l, prs L.b]), (0, .box [int x, int z, trs l])], 3⟩)
      (fun k => k ≤ T.length - 1) (fun k => T.length - 1 - k) 0 [0, 1, 2] (Nat.zero_le _) ?_ ?_
    · (refine qis ?_ ?_ <;> (repeat' first | exact rfl | (refine qS ?_; constructor)))
    · intro k hk
      refine Fork.dec (fun hlt => ?_) (fun hlt => ?_)
      · have hlt : k < T.length - 1 := by omega
        have hn := accL_len (bdF T) k
        have hs := accL_succ (bdF T) k
        have ha := hTb (1 + k) (by omega)
        have hb := hTb k (by omega)
        obtain ⟨a, hae⟩ : ∃ a, a = T.getD (1 + k) (0, 0) := ⟨_, rfl⟩
        obtain ⟨b, hbe⟩ : ∃ b, b = T.getD k (0, 0) := ⟨_, rfl⟩
        rw [← hae] at ha
        rw [← hbe] at hb
        have h1 := mbd (A := 20000) (B := 20000) (a := b.1) (b := a.2) hb.1 (by omega)
        have h2 := mbd (A := 20000) (B := 20000) (a := a.1) (b := b.2) ha.1 (by omega)
        have h3 := mbd (A := 800000000) (B := 800000000) (a := trnI a b) (b := trnI a b) (by simp only [trnI]; omega) (by simp only [trnI]; omega)
        have h4 := sq_bd ha
        have h5 := sq_bd hb
        have h6 := mbd (A := 800000000) (B := 800000000) (a := sqI a) (b := sqI b) (by omega) (by omega)
        have h7 : 0 < sqI a * sqI b := Int.mul_pos h4.1 h5.1
        have c6 := C238 (n := trnI a b * trnI a b) (d := sqI a * sqI b) (by omega)
        obtain ⟨f, hf⟩ : ∃ f, f = bendF a b := ⟨_, rfl⟩
        rw [show frac (trnI a b * trnI a b) (sqI a * sqI b) = f from hf.symm] at c6
        obtain ⟨ha1, ha2⟩ := ha
        obtain ⟨hb1, hb2⟩ := hb
        subst hae
        subst hbe
        simp only [trnI] at h3 c6
        (repeat' first | (refine Owe.same ?_; first | refine Owe.o ?_ | refine Owe.mk ?_ ?_) | (refine Fork.same ?_; (first | refine fkD ?_ ?_ | refine fkN ?_ ?_ | refine fkM ?_ ?_) <;> intro h) | ((first | refine OpsL.same ?_ | refine OpsDL.same ?_); first | refine pK C130 rfl rfl ?_ | refine pK c6 rfl rfl ?_) | refine MvQ.stay ?_)
        have hfe : bdF T k = f := by rw [hf, Nat.add_comm 1 k]
        rw [hfe] at hs
        refine again (k + 1) [0, 1, 13] (by omega) (by omega) ?_
        (refine qis ?_ ?_ <;> (repeat' first | exact rfl | (refine qS ?_; constructor)))
        · rw [hs]; simp
        · exact hs
      · (repeat' first | (refine Owe.same ?_; first | refine Owe.o ?_ | refine Owe.mk ?_ ?_) | (refine Fork.same ?_; (first | refine fkD ?_ ?_ | refine fkN ?_ ?_ | refine fkM ?_ ?_) <;> intro h) | refine MvQ.stay ?_)
        have : k = T.length - 1 := by omega
        subst this
        refine rqF 0 _ rfl rfl rfl ?_; (repeat' first | exact rfl | (refine qS ?_; constructor))
        exact h0.symm
  · rw [orE, if_neg h0]
    refine pi2 fn177 ?_
    (repeat' first | (refine Owe.same ?_; first | refine Owe.o ?_ | refine Owe.mk ?_ ?_) | (refine Fork.same ?_; (first | refine fkD ?_ ?_ | refine fkN ?_ ?_ | refine fkM ?_ ?_) <;> intro h) | ((first | refine OpsL.same ?_ | refine OpsDL.same ?_); first | refine pK c1 rfl rfl ?_ | refine pK c2 rfl rfl ?_) | refine MvQ.stay ?_)
    · (refine rqK rfl ?_; (repeat' first | exact rfl | (refine qS ?_; constructor)))
    · exact absurd h h0
abbrev frOk (a : Rg) : Prop := (0 ≤ a.1 ∧ a.1 ≤ 9223372036854775807) ∧ 0 ≤ a.2 ∧ a.2 ≤ 9223372036854775807
theorem tdiv_nn {a b M : Int} (h : 0 ≤ a ∧ a ≤ M) (hb : 0 ≤ b) : 0 ≤ a.tdiv b ∧ a.tdiv b ≤ M :=
  ⟨Int.tdiv_nonneg h.1 hb, Int.le_trans (Int.tdiv_le_self _ h.1) h.2⟩
theorem frac_ok {n d : Int} (hn : 0 ≤ n ∧ n ≤ 9223372036854775807) (hd : 0 ≤ d ∧ d ≤ 9223372036854775807) : frOk (frac n d) := by
  have hg : 0 ≤ gcdI n d := Int.natCast_nonneg _
  exact ⟨tdiv_nn hn hg, tdiv_nn hd hg⟩
theorem bend_ok {a b : Rg} (ha : tnOk a) (hb : tnOk b) : frOk (bendF a b) := by
  have h1 := mbd (A := 20000) (B := 20000) (a := b.1) (b := a.2) hb.1 (by omega)
  have h2 := mbd (A := 20000) (B := 20000) (a := a.1) (b := b.2) ha.1 (by omega)
  have h3 := mbd (A := 800000000) (B := 800000000) (a := trnI a b) (b := trnI a b) (by simp only [trnI]; omega) (by simp only [trnI]; omega)
  have h4 := sq_bd ha
  have h5 := sq_bd hb
  have h6 := mbd (A := 800000000) (B := 800000000) (a := sqI a) (b := sqI b) (by omega) (by omega)
  have h7 : 0 < sqI a * sqI b := Int.mul_pos h4.1 h5.1
  have h8 := mul_self_nn (trnI a b)
  exact frac_ok (by omega) (by omega)
theorem bdL_len (T : List Rg) : (bdL T).length = T.length - 1 := accL_len _ _
theorem bdL_ok {T : List Rg} (h : ∀ i, i < T.length → tnOk (T.getD i (0, 0))) {i : Nat} (hi : i < (bdL T).length) : frOk ((bdL T).getD i (0, 0)) := by
  rw [bdL_len] at hi
  rw [bdL, accL_get _ hi]
  exact bend_ok (h _ (by omega)) (h _ (by omega))
theorem tn_ok {L : Ln} (hT : L.Tight) {i : Nat} (hi : i < (accL (tnF L) L.l.length).length) : tnOk ((accL (tnF L) L.l.length).getD i (0, 0)) := by
  rw [accL_len] at hi
  rw [accL_get _ hi]
  have h1 := hT.toOk.bd (i + 1) (by omega)
  have h2 := hT.t i (by omega)
  exact ⟨h1.1, h2, h1.2.2.2⟩
/-- The first of the greatest fractions. -/
def shI (l : List Rg) : Nat → Nat
  | 0 => 0
  | k + 1 => if lessQ (l.getD (shI l k) (0, 0)) (l.getD k (0, 0)) = true then k else shI l k
theorem shI_lt (l : List Rg) (h : 0 < l.length) : ∀ k, k ≤ l.length → shI l k < l.length
  | 0, _ => h
  | k + 1, hk => by
    have := shI_lt l h k (by omega)
    unfold shI
    split <;> omega
def shE (e : Int) (l : List Rg) : Int := if e = 0 then (if l.length = 0 then 12 else 0) else e
theorem tight_of {o : Ln × Int} (ho : o.2 = 0 → o.1.Ok) (h0 : tgE o = 0) : o.1.Tight := by
  unfold tgE at h0
  split at h0
  · rename_i h1; exact ⟨ho h1, slkE_ok h0⟩
  · rename_i h1; exact absurd h0 h1
theorem C89 {x z : Int} {l : List Lk} {c : List Int} : (l.length ≤ 1000000 ∧ c.length ≤ 1000000) → PFD Tryz.prog 89 [.agg [int x, int z, trs l], .c (ints c)]
    (.tup [vi .i64 (if shE (tgE (opn x z l c)) (bdL (accL (tnF (opn x z l c).1) (opn x z l c).1.l.length)) = 0 then (shI (bdL (accL (tnF (opn x z l c).1) (opn x z l c).1.l.length)) (bdL (accL (tnF (opn x z l c).1) (opn x z l c).1.l.length)).length : Nat) else 0 : Int),
      .agg [int (if shE (tgE (opn x z l c)) (bdL (accL (tnF (opn x z l c).1) (opn x z l c).1.l.length)) = 0 then (bdL (accL (tnF (opn x z l c).1) (opn x z l c).1.l.length)).getD (shI (bdL (accL (tnF (opn x z l c).1) (opn x z l c).1.l.length)) (bdL (accL (tnF (opn x z l c).1) (opn x z l c).1.l.length)).length) (0, 0) else (0, 0)).1,
        int (if shE (tgE (opn x z l c)) (bdL (accL (tnF (opn x z l c).1) (opn x z l c).1.l.length)) = 0 then (bdL (accL (tnF (opn x z l c).1) (opn x z l c).1.l.length)).getD (shI (bdL (accL (tnF (opn x z l c).1) (opn x z l c).1.l.length)) (bdL (accL (tnF (opn x z l c).1) (opn x z l c).1.l.length)).length) (0, 0) else (0, 0)).2],
      vi .i64 (shE (tgE (opn x z l c)) (bdL (accL (tnF (opn x z l c).1) (opn x z l c).1.l.length)))]) := fun hl => by
  have c1 := C177 (x := x) (z := z) hl
  by_cases h0 : tgE (opn x z l c) = 0
  · have hT := tight_of (fun h => (opn_ok h).2) h0
    have hb : ∀ i, i < (bdL (accL (tnF (opn x z l c).1) (opn x z l c).1.l.length)).length → frOk ((bdL (accL (tnF (opn x z l c).1) (opn x z l c).1.l.length)).getD i (0, 0)) := fun i hi => bdL_ok (fun i hi => tn_ok hT hi) hi
    have hn : (bdL (accL (tnF (opn x z l c).1) (opn x z l c).1.l.length)).length ≤ 10 := by
      rw [bdL_len, accL_len]; have := hT.toOk.k.n.2; omega
    rw [h0, orE, if_pos rfl] at c1
    rw [h0]
    generalize bdL (accL (tnF (opn x z l c).1) (opn x z l c).1.l.length) = B at *
    by_cases hB0 : B.length = 0
    · have e : shE 0 B = 12 := by simp only [shE]; rw [if_pos trivial, if_pos hB0]
      have f : fstE [0, unb (decide (0 < (B.length : Int))) 12] = 12 := by simp only [fstE]; rw [if_pos trivial, decide_eq_false (by omega)]; rfl
      rw [e, if_neg (by decide), if_neg (by decide)]
      refine pi3 fn89 ?_
      (repeat' first | (refine Owe.same ?_; first | refine Owe.o ?_ | refine Owe.mk ?_ ?_) | (refine Fork.same ?_; (first | refine fkD ?_ ?_ | refine fkN ?_ ?_ | refine fkM ?_ ?_) <;> intro h) | ((first | refine OpsL.same ?_ | refine OpsDL.same ?_); first | refine pK c1 rfl rfl ?_ | refine pK C125 rfl rfl ?_ | refine pK C124 rfl rfl ?_) | refine MvQ.stay ?_)
      · (refine rqK rfl ?_; (repeat' first | exact rfl | (refine qS ?_; constructor)))
        exact f
      · rw [f] at h; exact absurd h (by decide)
    · have e : shE 0 B = 0 := by simp only [shE]; rw [if_pos trivial, if_neg hB0]
      have f : fstE [0, unb (decide (0 < (B.length : Int))) 12] = 0 := by simp only [fstE]; rw [if_pos trivial, decide_eq_true (by omega)]; rfl
      rw [e, if_pos rfl, if_pos rfl]
      refine pi3 fn89 ?_
      (repeat' first | (refine Owe.same ?_; first | refine Owe.o ?_ | refine Owe.mk ?_ ?_) | (refine Fork.same ?_; (first | refine fkD ?_ ?_ | refine fkN ?_ ?_ | refine fkM ?_ ?_) <;> intro h) | ((first | refine OpsL.same ?_ | refine OpsDL.same ?_); first | refine pK c1 rfl rfl ?_ | refine pK C125 rfl rfl ?_ | refine pK C124 rfl rfl ?_) | refine MvQ.stay ?_)
      · exact absurd f h
      · refine Sat.lp (fun k : Nat => ⟨[(31, vi .i64 k), (30, vi .i64 B.length), (29, .c (prs B)), (9, vi .i64 ((shI B k : Nat) : Int)), (7, .c (prs B)), (5, .c (.bp 1 0))], [(1, .box [int 0, int 0]), (0, .box [int x, int z, trs l])], 2⟩)
          (fun k => k ≤ B.length) (fun k => B.length - k) 0 [0, 1] (Nat.zero_le _) ?_ ?_
        · (refine qis ?_ ?_ <;> (repeat' first | exact rfl | (refine qS ?_; constructor)))
        · intro k hk
          have hs := shI_lt B (by omega) k hk
          have hfs := hb _ hs
          obtain ⟨hf1, hf2⟩ := hfs
          refine Fork.dec (fun hlt => ?_) (fun hlt => ?_)
          · have hlt : k < B.length := by omega
            have hfk := hb _ hlt
            obtain ⟨hf3, hf4⟩ := hfk
            have c2 := C178 (a := B.getD (shI B k) (0, 0)) (b := B.getD k (0, 0)) ⟨hf1, hf2, hf3, hf4⟩
            obtain ⟨q, hq⟩ : ∃ q, q = lessQ (B.getD (shI B k) (0, 0)) (B.getD k (0, 0)) := ⟨_, rfl⟩
            rw [← hq] at c2
            (repeat' first | (refine Owe.same ?_; first | refine Owe.o ?_ | refine Owe.mk ?_ ?_) | (refine Fork.same ?_; (first | refine fkD ?_ ?_ | refine fkN ?_ ?_ | refine fkM ?_ ?_) <;> intro h) | ((first | refine OpsL.same ?_ | refine OpsDL.same ?_); first | refine pK c2 rfl rfl ?_) | refine MvQ.stay ?_)
            · refine again (k + 1) [0, 1] hlt (by omega) ?_
              (refine qis ?_ ?_ <;> (repeat' first | exact rfl | (refine qS ?_; constructor)))
              rw [shI, ← hq, h]; rfl
            · refine again (k + 1) [0, 1] hlt (by omega) ?_
              (refine qis ?_ ?_ <;> (repeat' first | exact rfl | (refine qS ?_; constructor)))
              rw [shI, ← hq, h]; rfl
          · (repeat' first | (refine Owe.same ?_; first | refine Owe.o ?_ | refine Owe.mk ?_ ?_) | (refine Fork.same ?_; (first | refine fkD ?_ ?_ | refine fkN ?_ ?_ | refine fkM ?_ ?_) <;> intro h) | refine MvQ.stay ?_)
            have : k = B.length := by omega
            subst this
            (refine rqK rfl ?_; (repeat' first | exact rfl | (refine qS ?_; constructor)))
  · rw [orE, if_neg h0] at c1
    generalize bdL (accL (tnF (opn x z l c).1) (opn x z l c).1.l.length) = B at *
    rw [show shE (tgE (opn x z l c)) B = tgE (opn x z l c) from if_neg h0, if_neg h0, if_neg h0]
    refine pi3 fn89 ?_
    (repeat' first | (refine Owe.same ?_; first | refine Owe.o ?_ | refine Owe.mk ?_ ?_) | (refine Fork.same ?_; (first | refine fkD ?_ ?_ | refine fkN ?_ ?_ | refine fkM ?_ ?_) <;> intro h) | ((first | refine OpsL.same ?_ | refine OpsDL.same ?_); first | refine pK c1 rfl rfl ?_ | refine pK C125 rfl rfl ?_ | refine pK C124 rfl rfl ?_) | refine MvQ.stay ?_)
    · (refine rqK rfl ?_; (repeat' first | exact rfl | (refine qS ?_; constructor)))
      simp only [fstE]; rw [if_neg h0]
    · exfalso; revert h; simp only [fstE]; rw [if_neg h0]; exact h0
end Go.Pw

set_option linter.unusedSimpArgs false
set_option linter.unusedVariables false
namespace Go.Pw
set_option maxRecDepth 2000
open Go Go.Proofs A1 A2 A3 A4
abbrev exL : List Lk := [(10, 20, 3), (10, -20, 5), (5, 0, 0)]
abbrev exC : List Int := [4, -2, 7]
abbrev exB : List Rg := [(2, 4), (-2, 0), (0, 9)]
abbrev exP : List Rg := [(0, 0), (4, 0), (4, 4), (0, 4)]
theorem C85 : PFD Tryz.prog 85 [] (.agg [int 0, int 100, trs exL]) := by
  refine pi1 fn85 ?_
  (repeat' first | (refine Owe.same ?_; first | refine Owe.o ?_ | refine Owe.mk ?_ ?_) | (refine Fork.same ?_; (first | refine fkD ?_ ?_ | refine fkN ?_ ?_ | refine fkM ?_ ?_) <;> intro h) | refine MvQ.stay ?_)
  (refine rqK rfl ?_; (repeat' first | exact rfl | (refine qS ?_; constructor)))
theorem C86 : PFD Tryz.prog 86 [] (.c (ints exC)) := by
  refine pi1 fn86 ?_
  (repeat' first | (refine Owe.same ?_; first | refine Owe.o ?_ | refine Owe.mk ?_ ?_) | (refine Fork.same ?_; (first | refine fkD ?_ ?_ | refine fkN ?_ ?_ | refine fkM ?_ ?_) <;> intro h) | refine MvQ.stay ?_)
  (refine rqK rfl ?_; (repeat' first | exact rfl | (refine qS ?_; constructor)))
theorem C88 : PFD Tryz.prog 88 [] (.c (prs exB)) := by
  refine pi1 fn88 ?_
  (repeat' first | (refine Owe.same ?_; first | refine Owe.o ?_ | refine Owe.mk ?_ ?_) | (refine Fork.same ?_; (first | refine fkD ?_ ?_ | refine fkN ?_ ?_ | refine fkM ?_ ?_) <;> intro h) | refine MvQ.stay ?_)
  (refine rqK rfl ?_; (repeat' first | exact rfl | (refine qS ?_; constructor)))
theorem C8 : PFD Tryz.prog 8 [] (vbl true) := by
  have c1 := C52 (x := 0) (z := 100) (l := exL) (c := exC) (by decide)
  have c2 := C87 (x := 0) (z := 100) (l := exL) (b := exB) (by decide)
  have c3 := C89 (x := 0) (z := 100) (l := exL) (c := exC) (by decide)
  have c4 := C90 (l := exP) (q := (1, 2)) (by decide)
  rw [show orE (opn 0 100 exL exC).2 (accL (tnF (opn 0 100 exL exC).1) (opn 0 100 exL exC).1.l.length) = [(12, 120), (2, 100), (2, 100)] by decide +kernel, show (opn 0 100 exL exC).2 = 0 by decide +kernel] at c1
  rw [show orP (tgE (opb 0 100 exL exB)) (laybk (opb 0 100 exL exB).1) = (-2, 4) by decide +kernel, show tgE (opb 0 100 exL exB) = 0 by decide +kernel] at c2
  have h3 : bdL (accL (tnF (opn 0 100 exL exC).1) (opn 0 100 exL exC).1.l.length) = [(1600, 252601), (0, 1)] := by decide +kernel
  rw [h3, show tgE (opn 0 100 exL exC) = 0 by decide +kernel, show shE 0 [(1600, 252601), (0, 1)] = 0 by decide +kernel, if_pos rfl, if_pos rfl, show shI [(1600, 252601), (0, 1)] ([(1600, 252601), (0, 1)] : List Rg).length = 0 by decide +kernel, show ([(1600, 252601), (0, 1)] : List Rg).getD 0 (0, 0) = (1600, 252601) by decide +kernel] at c3
  rw [show wofE exP (1, 2) = 0 by decide +kernel, show wndI exP (1, 2) = 1 by decide +kernel, if_pos rfl] at c4
  have c5 := C91 (l := [(12, 120), (2, 100), (2, 100)]) (m := [(12, 120), (2, 100), (2, 100)]) (by decide)
  rw [show decide ([(12, 120), (2, 100), (2, 100)] = ([(12, 120), (2, 100), (2, 100)] : List Rg)) = true by decide +kernel] at c5
  refine pi1 fn8 ?_
  (repeat' first | (refine Owe.same ?_; first | refine Owe.o ?_ | refine Owe.mk ?_ ?_) | (refine Fork.same ?_; (first | refine fkD ?_ ?_ | refine fkN ?_ ?_ | refine fkM ?_ ?_) <;> intro h) | ((first | refine OpsL.same ?_ | refine OpsDL.same ?_); first | refine pK C85 rfl rfl ?_ | refine pK C86 rfl rfl ?_ | refine pK C88 rfl rfl ?_ | refine pK c1 rfl rfl ?_ | refine pK c2 rfl rfl ?_ | refine pK c3 rfl rfl ?_ | refine pK c4 rfl rfl ?_ | refine pK c5 rfl rfl ?_) | refine MvQ.stay ?_)
  · (refine rqK rfl ?_; (repeat' first | exact rfl | (refine qS ?_; constructor)))
  all_goals (exfalso; revert h; decide)
end Go.Pw

set_option linter.unusedSimpArgs false
set_option linter.unusedVariables false
namespace Go.Pw
set_option maxRecDepth 2000
open Go Go.Proofs A1 A2 A3 A4
theorem C9 {x z n : Int} {l : List Lk} : PFD Tryz.prog 9 [.agg [int x, int z, trs l], vi .i64 n] (vbl (decide (l.length ≤ 12 ∧ n ≤ 14))) := by
  refine pi1 fn9 ?_
  (repeat' first | (refine Owe.same ?_; first | refine Owe.o ?_ | refine Owe.mk ?_ ?_) | (refine Fork.same ?_; (first | refine fkD ?_ ?_ | refine fkN ?_ ?_ | refine fkM ?_ ?_) <;> intro h) | refine MvQ.stay ?_)
  all_goals ((refine rqK rfl ?_; (repeat' first | exact rfl | (refine qS ?_; constructor))); simp only [decide_eq_true_eq, decide_eq_false_iff_not, decide_eq_decide]; omega)
theorem ldE_0 {x z : Int} {l : List Lk} (h1 : (-10000 ≤ x ∧ x ≤ 10000) ∧ -10000 ≤ z ∧ z ≤ 10000) (h2 : 0 < l.length) (h3 : l.length ≤ 10) : ldE x z l = 0 := by
  simp only [ldE, fstE, unl_eq]
  rw [if_pos h1, if_pos rfl, if_pos (show (0 : Int) < l.length by omega), if_pos rfl, if_pos (show (l.length : Int) ≤ 10 by omega), if_pos rfl]
theorem C104 {x z : Int} {l : List Lk} : l.length ≤ 1000000 → PFD Tryz.prog 104 [.agg [int x, int z, trs l]] (.tup [vi .i64 (lineE x z l).1, vi .i64 (lineE x z l).2]) := fun hl => by
  by_cases h1 : (-10000 ≤ x ∧ x ≤ 10000) ∧ -10000 ≤ z ∧ z ≤ 10000
  · by_cases h2 : l.length = 0
    · have e : lineE x z l = (0, 10) := by
        simp only [lineE, ldE, fstE, unl_eq]
        rw [if_pos h1, if_neg (show ¬ (0 : Int) < l.length by omega)]; rfl
      rw [e]
      refine pi2 fn104 ?_
      (repeat' first | (refine Owe.same ?_; first | refine Owe.o ?_ | refine Owe.mk ?_ ?_) | (refine Fork.same ?_; (first | refine fkD ?_ ?_ | refine fkN ?_ ?_ | refine fkM ?_ ?_) <;> intro h) | ((first | refine OpsL.same ?_ | refine OpsDL.same ?_); first | refine pK C46 rfl rfl ?_) | refine MvQ.stay ?_)
      all_goals first | (exfalso; omega) | (refine rqK rfl ?_; (repeat' first | exact rfl | (refine qS ?_; constructor)))
    · by_cases h3 : l.length ≤ 10
      · have e : lineE x z l = eachE lkErr 0 l := by rw [lineE, if_pos (ldE_0 h1 (by omega) h3)]
        rw [e]
        refine pi2 fn104 ?_
        (repeat' first | (refine Owe.same ?_; first | refine Owe.o ?_ | refine Owe.mk ?_ ?_) | (refine Fork.same ?_; (first | refine fkD ?_ ?_ | refine fkN ?_ ?_ | refine fkM ?_ ?_) <;> intro h) | ((first | refine OpsL.same ?_ | refine OpsDL.same ?_); first | refine pK C46 rfl rfl ?_) | refine MvQ.stay ?_)
        all_goals first | (exfalso; omega) | skip
        refine Sat.lp (fun k : Nat => ⟨[(5, vi .i64 k), (1, .c (.bp 0 0))], [(0, .box [int x, int z, trs l])], 1⟩)
          (fun k => k ≤ l.length ∧ eachE lkErr 0 l = eachE lkErr k (l.drop k)) (fun k => l.length - k) 0 [0] ⟨Nat.zero_le _, rfl⟩ ?_ ?_
        · (refine qis ?_ ?_ <;> (repeat' first | exact rfl | (refine qS ?_; constructor)))
        · intro k hk
          refine Fork.dec (fun hlt => ?_) (fun hlt => ?_)
          · have hlt : k < l.length := by omega
            have e2 := eachE_drop lkErr (0, 0, 0) l k hlt
            by_cases h4 : lkOk (l.getD k (0, 0, 0))
            · rw [if_pos (by simp only [lkErr, unl_eq]; rw [if_pos h4]), ← hk.2] at e2
              obtain ⟨h5, h6, h7⟩ := h4
              (repeat' first | (refine Owe.same ?_; first | refine Owe.o ?_ | refine Owe.mk ?_ ?_) | (refine Fork.same ?_; (first | refine fkD ?_ ?_ | refine fkN ?_ ?_ | refine fkM ?_ ?_) <;> intro h) | ((first | refine OpsL.same ?_ | refine OpsDL.same ?_); first | refine pK C46 rfl rfl ?_) | refine MvQ.stay ?_)
              all_goals first | (exfalso; simp only [Int.toNat_natCast] at *; omega) | skip
              refine again (k + 1) [0] ⟨hlt, e2⟩ (by omega) ?_
              (refine qis ?_ ?_ <;> (repeat' first | exact rfl | (refine qS ?_; constructor)))
            · rw [if_neg (by simp only [lkErr, unl_eq]; rw [if_neg h4]; decide), ← hk.2] at e2
              have e3 : lkErr (l.getD k (0, 0, 0)) = 2 := by simp only [lkErr, unl_eq]; rw [if_neg h4]
              rw [e2, e3]
              simp only [lkOk] at h4
              (repeat' first | (refine Owe.same ?_; first | refine Owe.o ?_ | refine Owe.mk ?_ ?_) | (refine Fork.same ?_; (first | refine fkD ?_ ?_ | refine fkN ?_ ?_ | refine fkM ?_ ?_) <;> intro h) | ((first | refine OpsL.same ?_ | refine OpsDL.same ?_); first | refine pK C46 rfl rfl ?_) | refine MvQ.stay ?_)
              all_goals first | (refine rqK rfl ?_; (repeat' first | exact rfl | (refine qS ?_; constructor))) | (exfalso; simp only [Int.toNat_natCast] at *; omega)
          · (repeat' first | (refine Owe.same ?_; first | refine Owe.o ?_ | refine Owe.mk ?_ ?_) | (refine Fork.same ?_; (first | refine fkD ?_ ?_ | refine fkN ?_ ?_ | refine fkM ?_ ?_) <;> intro h) | refine MvQ.stay ?_)
            rw [hk.2, List.drop_of_length_le (by omega)]
            (refine rqK rfl ?_; (repeat' first | exact rfl | (refine qS ?_; constructor)))
      · have e : lineE x z l = (0, 8) := by
          simp only [lineE, ldE, fstE, unl_eq]
          rw [if_pos h1, if_pos (show (0 : Int) < l.length by omega), if_neg (show ¬ (l.length : Int) ≤ 10 by omega)]; rfl
        rw [e]
        refine pi2 fn104 ?_
        (repeat' first | (refine Owe.same ?_; first | refine Owe.o ?_ | refine Owe.mk ?_ ?_) | (refine Fork.same ?_; (first | refine fkD ?_ ?_ | refine fkN ?_ ?_ | refine fkM ?_ ?_) <;> intro h) | ((first | refine OpsL.same ?_ | refine OpsDL.same ?_); first | refine pK C46 rfl rfl ?_) | refine MvQ.stay ?_)
        all_goals first | (exfalso; omega) | (refine rqK rfl ?_; (repeat' first | exact rfl | (refine qS ?_; constructor)))
  · have e : lineE x z l = (0, 2) := by
      simp only [lineE, ldE, fstE, unl_eq]
      rw [if_neg h1]; rfl
    rw [e]
    refine pi2 fn104 ?_
    (repeat' first | (refine Owe.same ?_; first | refine Owe.o ?_ | refine Owe.mk ?_ ?_) | (refine Fork.same ?_; (first | refine fkD ?_ ?_ | refine fkN ?_ ?_ | refine fkM ?_ ?_) <;> intro h) | ((first | refine OpsL.same ?_ | refine OpsDL.same ?_); first | refine pK C46 rfl rfl ?_) | refine MvQ.stay ?_)
    all_goals first | (exfalso; omega) | (refine rqK rfl ?_; (repeat' first | exact rfl | (refine qS ?_; constructor)))
theorem C22 {x z : Int} {l : List Lk} : l.length ≤ 1000000 → PFD Tryz.prog 22 [.agg [int x, int z, trs l]] (vi .i64 (lineE x z l).2) := fun hl => by
  have c1 := C104 (x := x) (z := z) hl
  refine pi1 fn22 ?_
  (repeat' first | (refine Owe.same ?_; first | refine Owe.o ?_ | refine Owe.mk ?_ ?_) | (refine Fork.same ?_; (first | refine fkD ?_ ?_ | refine fkN ?_ ?_ | refine fkM ?_ ?_) <;> intro h) | ((first | refine OpsL.same ?_ | refine OpsDL.same ?_); first | refine pK c1 rfl rfl ?_) | refine MvQ.stay ?_)
  (refine rqK rfl ?_; (repeat' first | exact rfl | (refine qS ?_; constructor)))
end Go.Pw

set_option linter.unusedSimpArgs false
set_option linter.unusedVariables false
set_option maxHeartbeats 1000000
namespace Go.Pw
open Go.RowKit Go.Lib
set_option maxRecDepth 2000
open Go Go.Proofs A1 A2 A3 A4
def alL {α : Type} (f : By → Option α) : List By → Option (List α)
  | [] => some []
  | w :: r => match f w, alL f r with
    | some n, some l => some (n :: l)
    | _, _ => none
theorem alL_app {α : Type} {f : By → Option α} {w : By} : ∀ {l : List By} {a : List α}, alL f l = some a → alL f (l ++ [w]) = match f w with | some n => some (a ++ [n]) | none => none
  | [], a, h => by
    cases h
    cases hw : f w <;> simp [alL, hw]
  | x :: l, a, h => by
    rw [alL] at h
    rw [List.cons_append, alL]
    split at h
    · rename_i n m hn hm
      cases h
      rw [alL_app hm, hn]
      cases f w <;> simp
    · cases h
theorem alL_bad {α : Type} {f : By → Option α} {w : By} (hw : f w = none) : ∀ {l r : List By}, alL f (l ++ w :: r) = none
  | [], r => by rw [List.nil_append, alL, hw]
  | x :: l, r => by
    rw [List.cons_append, alL, alL_bad hw]
    cases f x <;> rfl
theorem alL_take {α : Type} {f : By → Option α} {l : List By} {k : Nat} (hk : k < l.length) (h : f (l.getD k []) = none) : alL f l = none := by
  have e : l = l.take k ++ l.getD k [] :: l.drop (k + 1) := by
    rw [List.getD_eq_getElem?_getD, List.getElem?_eq_getElem hk]
    exact (List.take_append_drop k l).symm.trans (by rw [List.drop_eq_getElem_cons hk]; rfl)
  rw [e]; exact alL_bad h
theorem C102y {s : By} {d : Int} {l : List Int} (h : pvS d s = some l) (hs : s.length ≤ 100000) (hd : d ≤ 18) : PFD Tryz.prog 102 [sv s, vi .i64 d] (.tup [.c (ints l), vbl true]) := by
  have := C102 ⟨hs, hd⟩; rw [h] at this; exact this
theorem C102n {s : By} {d : Int} (h : pvS d s = none) (hs : s.length ≤ 100000) (hd : d ≤ 18) : PFD Tryz.prog 102 [sv s, vi .i64 d] (.tup [.c (ints []), vbl false]) := by
  have := C102 ⟨hs, hd⟩; rw [h] at this; exact this
/-- A link, the first piece, a line out of a string. -/
def lkP (p : By) : Option Tr3 := match pvS 5 p with
  | some [a, b, c] => if 0 ≤ a ∧ 0 ≤ c then some (a, b, c) else none
  | _ => none
def hdP (p : By) : Option (Int × Int) := match pvS 5 p with
  | some [a, b] => some (a, b)
  | _ => none
abbrev Lnv := Int × Int × List Tr3
abbrev lnv (q : Lnv) : V := .agg [int q.1, int q.2.1, trs q.2.2]
def plV (h : By) (r : List By) : Lnv × Int := match hdP h, alL lkP r with
  | some (x, z), some l => if (lineE x z l).2 = 0 then ((x, z, l), 0) else ((0, 0, []), (lineE x z l).2)
  | _, _ => ((0, 0, []), 7)
def plE (s : By) : Lnv × Int := if 60000 < s.length then ((0, 0, []), 8) else match cutG 59 [] s with
  | [] => ((0, 0, []), 7)
  | h :: r => plV h r
theorem lkP_n {p : By} (h : lkP p = none) : pvS 5 p = none ∨ (∃ v, pvS 5 p = some v ∧ v.length ≠ 3) ∨ ∃ a b c, pvS 5 p = some [a, b, c] ∧ (a < 0 ∨ c < 0) := by
  unfold lkP at h
  split at h
  · rename_i a b c h1
    split at h
    · cases h
    · rename_i h2; exact .inr (.inr ⟨a, b, c, h1, by omega⟩)
  · rename_i h1
    cases hn : pvS 5 p with
    | none => exact .inl rfl
    | some l =>
      refine .inr (.inl ⟨l, rfl, fun hl => ?_⟩)
      match l, hl, hn with
      | [a, b, c], _, hn => exact absurd hn (h1 a b c)
theorem lkP_y {p : By} {r : Tr3} (h : lkP p = some r) : pvS 5 p = some [r.1, r.2.1, r.2.2] ∧ 0 ≤ r.1 ∧ 0 ≤ r.2.2 := by
  unfold lkP at h
  split at h
  · rename_i a b c h1
    split at h
    · rename_i h2; cases h; exact ⟨h1, h2⟩
    · cases h
  · cases h
theorem hdP_n {p : By} (h : hdP p = none) : pvS 5 p = none ∨ ∃ v, pvS 5 p = some v ∧ v.length ≠ 2 := by
  unfold hdP at h
  split at h
  · cases h
  · rename_i h1
    cases hn : pvS 5 p with
    | none => exact .inl rfl
    | some l =>
      refine .inr ⟨l, rfl, fun hl => ?_⟩
      match l, hl, hn with
      | [a, b], _, hn => exact absurd hn (h1 a b)
theorem hdP_y {p : By} {a b : Int} (h : hdP p = some (a, b)) : pvS 5 p = some [a, b] := by
  unfold hdP at h
  split at h
  · rename_i h1; cases h; exact h1
  · cases h
theorem plV_h {h : By} {r : List By} (e : hdP h = none) : plV h r = ((0, 0, []), 7) := by
  unfold plV; rw [e]
theorem plV_r {h : By} {r : List By} (e : alL lkP r = none) : plV h r = ((0, 0, []), 7) := by
  unfold plV; rw [e]
  cases hdP h <;> rfl
theorem plV_y {h : By} {r : List By} {a b : Int} {l : List Tr3} (e1 : hdP h = some (a, b)) (e : alL lkP r = some l) : plV h r = if (lineE a b l).2 = 0 then ((a, b, l), 0) else ((0, 0, []), (lineE a b l).2) := by
  unfold plV; rw [e1, e]
theorem plE_of {s h : By} {r : List By} (hs : ¬ 60000 < s.length) (e : cutG 59 [] s = h :: r) : plE s = plV h r := by
  unfold plE; rw [if_neg hs, e]
theorem plE_big {s : By} (hs : 60000 < s.length) : plE s = ((0, 0, []), 8) := by unfold plE; rw [if_pos hs]
theorem C16 {s : By} : s.length ≤ 100000 → PFD Tryz.prog 16 [sv s] (.tup [lnv (plE s).1, vi .i64 (plE s).2]) := fun hs => by
  have hz : (bs s).size = s.length := bs_size s
  by_cases hb : 60000 < s.length
  · rw [plE_big hb]
    refine pi2 fn16 ?_
    (repeat' first | (refine Owe.same ?_; first | refine Owe.o ?_ | refine Owe.mk ?_ ?_) | (refine Fork.same ?_; (first | refine fkD ?_ ?_ | refine fkN ?_ ?_ | refine fkM ?_ ?_) <;> (intro h; try (exfalso; omega))) | refine MvQ.stay ?_)
    (refine rqK rfl ?_; (repeat' first | exact rfl | (refine qS ?_; constructor)))
  have h50 := C101 (s := s) (c := 59) (by omega)
  have hPl := cut_count (c := 59) (l := s) (acc := [])
  have hPx : Hd (∀ x ∈ cutG 59 [] s, x.length ≤ 60000) := ⟨fun x hx => by have := cut_len x hx; simp at this; omega⟩
  obtain ⟨h0, R, hP⟩ : ∃ h0 R, cutG 59 [] s = h0 :: R := by
    cases hc : cutG 59 [] s with
    | nil => exact absurd hc cutG_ne
    | cons x r => exact ⟨x, r, rfl⟩
  rw [plE_of hb hP]
  rw [hP] at h50 hPx hPl
  have hPl : R.length ≤ 60001 := by rw [List.length_cons] at hPl; omega
  clear hP
  refine pi2 fn16 ?_
  (repeat' first | (refine Owe.same ?_; first | refine Owe.o ?_ | refine Owe.mk ?_ ?_) | (refine Fork.same ?_; (first | refine fkY ?_ | refine fkF ?_ | ((first | refine fkD ?_ ?_ | refine fkN ?_ ?_ | refine fkM ?_ ?_) <;> (intro h; try (exfalso; omega))))) | ((first | refine OpsL.same ?_ | refine OpsDL.same ?_); first | refine oK h50 rfl rfl rfl ?_) | refine MvQ.stay ?_)
  refine Sat.nilB 2 2 160 3 (fun i => r3 (([] : List Tr3).getD i (0, 0, 0))) rfl rfl ?_
  refine Sat.lp (fun st : Nat × (Int × Int) × List Tr3 => ⟨[(2, .c (.bp 0 0)), (4, .c (.bp 1 0)), (5, .c (sts (h0 :: R))), (6, .c (.bp 2 0)), (7, vi .i64 (st.1 : Int))],
      [(0, .box [int 0, int 0, .d (.v (.slice none 0 0))]), (1, .box [int 0, int 0, .d (.v (.slice none 0 0))]), (2, .box [int st.2.1.1, int st.2.1.2, .ms 3 st.2.2.length]), (3, rowv 160 3 r3 (0, 0, 0) st.2.2)], 4⟩)
    (fun st : Nat × (Int × Int) × List Tr3 => (st.1 ≤ R.length + 1 ∧ st.2.2.length = st.1 - 1) ∧ Hd (0 < st.1 → hdP h0 = some st.2.1) ∧ Hd (alL lkP (R.take (st.1 - 1)) = some st.2.2)) (fun st : Nat × (Int × Int) × List Tr3 => R.length + 1 - st.1) (0, (0, 0), []) [0, 1, 2, 3] ⟨⟨by simp, rfl⟩, ⟨fun h => absurd h (Nat.lt_irrefl _)⟩, ⟨rfl⟩⟩ ?_ ?_
  · (refine qis ?_ ?_ <;> (repeat' first | exact rfl | (refine qS ?_; constructor)))
  · rintro ⟨k, ⟨x, z⟩, acc⟩ ⟨⟨hk, hal⟩, hx, ha⟩
    simp only at hk hal hx ha
    have hlen : (h0 :: R).length = R.length + 1 := rfl
    refine Fork.dec (fun hlt => ?_) (fun hlt => ?_)
    · have hlt : k < R.length + 1 := by
        have hlt : (k : Int) < ((R.length + 1 : Nat) : Int) := hlt
        omega
      have hpl := hPx.h _ (getD_mem (l := h0 :: R) [] hlt)
      rcases Nat.eq_zero_or_pos k with hk0 | hk0
      · subst hk0
        have hacc : acc = [] := List.length_eq_zero_iff.1 hal
        subst hacc
        cases hh : hdP h0 with
        | none =>
          rw [plV_h hh]
          rcases hdP_n hh with hn | ⟨v, hn, hv⟩
          · have h51 := C102n (s := (h0 :: R).getD ((0 : Nat) : Int).toNat []) (d := 5) hn (Nat.le_trans hpl (by decide)) (by decide)
            (repeat' first | (refine Owe.same ?_; first | refine Owe.o ?_ | refine Owe.mk ?_ ?_) | (refine Fork.same ?_; (first | refine fkY ?_ | refine fkF ?_ | ((first | refine fkD ?_ ?_ | refine fkN ?_ ?_ | refine fkM ?_ ?_) <;> (intro h; try (exfalso; omega))))) | ((first | refine OpsL.same ?_ | refine OpsDL.same ?_); first | refine oK h51 rfl rfl rfl ?_) | refine MvQ.stay ?_)
            (refine rqK rfl ?_; (repeat' first | exact rfl | (refine qS ?_; constructor)))
          · have h51 := C102y (s := (h0 :: R).getD ((0 : Nat) : Int).toNat []) (d := 5) hn (Nat.le_trans hpl (by decide)) (by decide)
            (repeat' first | (refine Owe.same ?_; first | refine Owe.o ?_ | refine Owe.mk ?_ ?_) | (refine Fork.same ?_; (first | refine fkY ?_ | refine fkF ?_ | ((first | refine fkD ?_ ?_ | refine fkN ?_ ?_ | refine fkM ?_ ?_) <;> (intro h; try (exfalso; omega))))) | ((first | refine OpsL.same ?_ | refine OpsDL.same ?_); first | refine oK h51 rfl rfl rfl ?_) | refine MvQ.stay ?_)
            (refine rqK rfl ?_; (repeat' first | exact rfl | (refine qS ?_; constructor)))
        | some ab =>
          obtain ⟨a, b⟩ := ab
          have h51 := C102y (s := (h0 :: R).getD ((0 : Nat) : Int).toNat []) (d := 5) (hdP_y hh) (Nat.le_trans hpl (by decide)) (by decide)
          have hh := Hd.mk hh
          (repeat' first | (refine Owe.same ?_; first | refine Owe.o ?_ | refine Owe.mk ?_ ?_) | (refine Fork.same ?_; (first | refine fkY ?_ | refine fkF ?_ | ((first | refine fkD ?_ ?_ | refine fkN ?_ ?_ | refine fkM ?_ ?_) <;> (intro h; try (exfalso; omega))))) | ((first | refine OpsL.same ?_ | refine OpsDL.same ?_); first | refine oK h51 rfl rfl rfl ?_) | refine MvQ.stay ?_)
          refine again (1, (a, b), []) [0, 1, 2, 3] ⟨⟨by omega, rfl⟩, ⟨fun _ => rfl⟩, ⟨rfl⟩⟩ (by show R.length + 1 - 1 < R.length + 1 - 0; omega) ?_
          (refine qis ?_ ?_ <;> (repeat' first | exact rfl | (refine qS ?_; constructor)))
      · obtain ⟨j, rfl⟩ : ∃ j, k = j + 1 := ⟨k - 1, by omega⟩
        have hg : (h0 :: R).getD ((j + 1 : Nat) : Int).toNat [] = R.getD j [] := rfl
        have hal : acc.length = j := hal
        have hpl : (R.getD j []).length ≤ 60000 := hpl
        have ha : Hd (alL lkP (R.take j) = some acc) := ha
        have hj : j < R.length := by omega
        cases hd : lkP (R.getD j []) with
        | none =>
          rw [plV_r (alL_take hj hd)]
          rcases lkP_n hd with hn | ⟨v, hn, hv⟩ | ⟨a', b', c', hn, he⟩
          · have h51 := C102n (s := (h0 :: R).getD ((j + 1 : Nat) : Int).toNat []) (d := 5) (by rw [hg]; exact hn) (by rw [hg]; exact Nat.le_trans hpl (by decide)) (by decide)
            (repeat' first | (refine Owe.same ?_; first | refine Owe.o ?_ | refine Owe.mk ?_ ?_) | (refine Fork.same ?_; (first | refine fkY ?_ | refine fkF ?_ | ((first | refine fkD ?_ ?_ | refine fkN ?_ ?_ | refine fkM ?_ ?_) <;> (intro h; try (exfalso; omega))))) | ((first | refine OpsL.same ?_ | refine OpsDL.same ?_); first | refine oK h51 rfl rfl rfl ?_) | refine MvQ.stay ?_)
            (refine rqK rfl ?_; (repeat' first | exact rfl | (refine qS ?_; constructor)))
          · have h51 := C102y (s := (h0 :: R).getD ((j + 1 : Nat) : Int).toNat []) (d := 5) (by rw [hg]; exact hn) (by rw [hg]; exact Nat.le_trans hpl (by decide)) (by decide)
            (repeat' first | (refine Owe.same ?_; first | refine Owe.o ?_ | refine Owe.mk ?_ ?_) | (refine Fork.same ?_; (first | refine fkY ?_ | refine fkF ?_ | ((first | refine fkD ?_ ?_ | refine fkN ?_ ?_ | refine fkM ?_ ?_) <;> (intro h; try (exfalso; omega))))) | ((first | refine OpsL.same ?_ | refine OpsDL.same ?_); first | refine oK h51 rfl rfl rfl ?_) | refine MvQ.stay ?_)
            (refine rqK rfl ?_; (repeat' first | exact rfl | (refine qS ?_; constructor)))
          · have h51 := C102y (s := (h0 :: R).getD ((j + 1 : Nat) : Int).toNat []) (d := 5) (by rw [hg]; exact hn) (by rw [hg]; exact Nat.le_trans hpl (by decide)) (by decide)
            have e0 : [a', b', c'].getD (Int.toNat 0) 0 = a' := rfl
            have e2 : [a', b', c'].getD (Int.toNat 2) 0 = c' := rfl
            have e3 : [a', b', c'].length = 3 := rfl
            (repeat' first | (refine Owe.same ?_; first | refine Owe.o ?_ | refine Owe.mk ?_ ?_) | (refine Fork.same ?_; (first | refine fkY ?_ | refine fkF ?_ | ((first | refine fkD ?_ ?_ | refine fkN ?_ ?_ | refine fkM ?_ ?_) <;> (intro h; try (exfalso; omega))))) | ((first | refine OpsL.same ?_ | refine OpsDL.same ?_); first | refine oK h51 rfl rfl rfl ?_) | refine MvQ.stay ?_)
            · (refine rqK rfl ?_; (repeat' first | exact rfl | (refine qS ?_; constructor)))
            · (refine rqK rfl ?_; (repeat' first | exact rfl | (refine qS ?_; constructor)))
        | some r =>
          obtain ⟨hn, he1, he2⟩ := lkP_y hd
          have h51 := C102y (s := (h0 :: R).getD ((j + 1 : Nat) : Int).toNat []) (d := 5) (by rw [hg]; exact hn) (by rw [hg]; exact Nat.le_trans hpl (by decide)) (by decide)
          have hn1 : Hd (alL lkP (R.take (j + 1)) = some (acc ++ [r])) := ⟨by rw [tk1 [] hj, alL_app ha.h, hd]⟩
          have hd := Hd.mk hd
          have hn := Hd.mk hn
          have e0 : [r.1, r.2.1, r.2.2].getD (Int.toNat 0) 0 = r.1 := rfl
          have e2 : [r.1, r.2.1, r.2.2].getD (Int.toNat 2) 0 = r.2.2 := rfl
          have e3 : [r.1, r.2.1, r.2.2].length = 3 := rfl
          (repeat' first | (refine Owe.same ?_; first | refine Owe.o ?_ | refine Owe.mk ?_ ?_) | (refine Fork.same ?_; (first | refine fkY ?_ | refine fkF ?_ | ((first | refine fkD ?_ ?_ | refine fkN ?_ ?_ | refine fkM ?_ ?_) <;> (intro h; try (exfalso; omega))))) | ((first | refine OpsL.same ?_ | refine OpsDL.same ?_); first | refine oK h51 rfl rfl rfl ?_) | refine MvQ.stay ?_)
          refine again (j + 2, (x, z), acc ++ [r]) [0, 1, 2, 17] ⟨⟨by omega, by simp; omega⟩, ⟨fun _ => hx.h (Nat.succ_pos _)⟩, hn1⟩ (by show R.length + 1 - (j + 2) < R.length + 1 - (j + 1); omega) ?_
          (refine qis ?_ ?_ <;> (repeat' first | exact rfl | (refine qS ?_; constructor)))
          · simp
    · have hk1 : k = R.length + 1 := by
        have hlt : ¬ (k : Int) < ((R.length + 1 : Nat) : Int) := hlt
        omega
      subst hk1
      have ha : alL lkP R = some acc := by have := ha.h; rw [Nat.add_sub_cancel, List.take_length] at this; exact this
      have hx := hx.h (Nat.succ_pos _)
      rw [plV_y hx ha]
      have hacc : acc.length ≤ 1000000 := by omega
      have h22 := C22 (x := x) (z := z) (l := acc) hacc
      by_cases h0 : (lineE x z acc).2 = 0
      · rw [if_pos h0]
        rw [h0] at h22
        (repeat' first | (refine Owe.same ?_; first | refine Owe.o ?_ | refine Owe.mk ?_ ?_) | (refine Fork.same ?_; (first | refine fkD ?_ ?_ | refine fkN ?_ ?_ | refine fkM ?_ ?_) <;> intro h))
        refine MvQ.frzX 2 2 3 rfl rfl rfl (Nat.le_refl _) ?_
        (repeat' first | (refine Owe.same ?_; first | refine Owe.o ?_ | refine Owe.mk ?_ ?_) | (refine Fork.same ?_; (first | refine fkY ?_ | refine fkF ?_ | ((first | refine fkD ?_ ?_ | refine fkN ?_ ?_ | refine fkM ?_ ?_) <;> (intro h; try (exfalso; omega))))) | ((first | refine OpsL.same ?_ | refine OpsDL.same ?_); first | refine oK h22 rfl rfl rfl ?_) | refine MvQ.stay ?_)
        (refine rqK rfl ?_; (repeat' first | exact rfl | (refine qS ?_; constructor)))
      · rw [if_neg h0]
        (repeat' first | (refine Owe.same ?_; first | refine Owe.o ?_ | refine Owe.mk ?_ ?_) | (refine Fork.same ?_; (first | refine fkD ?_ ?_ | refine fkN ?_ ?_ | refine fkM ?_ ?_) <;> intro h))
        refine MvQ.frzX 2 2 3 rfl rfl rfl (Nat.le_refl _) ?_
        (repeat' first | (refine Owe.same ?_; first | refine Owe.o ?_ | refine Owe.mk ?_ ?_) | (refine Fork.same ?_; (first | refine fkY ?_ | refine fkF ?_ | ((first | refine fkD ?_ ?_ | refine fkN ?_ ?_ | refine fkM ?_ ?_) <;> (intro h; try (exfalso; omega))))) | ((first | refine OpsL.same ?_ | refine OpsDL.same ?_); first | refine oK h22 rfl rfl rfl ?_) | refine MvQ.stay ?_)
        (refine rqK rfl ?_; (repeat' first | exact rfl | (refine qS ?_; constructor)))
end Go.Pw
