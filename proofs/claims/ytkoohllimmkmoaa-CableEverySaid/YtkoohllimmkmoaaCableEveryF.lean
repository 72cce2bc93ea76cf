/- Proved here at the end: the row named in the last theorem, on no condition. -/
import Derived.Test.YtkoohllimmkmoaaCableEveryE
import Derived.Test.YtkoohllimmkmoaaProg
import Derived.Test.YtkoohllimmkmoaaRows
set_option linter.unusedVariables false
set_option maxHeartbeats 2000000
set_option maxRecDepth 100000
namespace Go.Pw
open Go Go.Proofs
/-- moonpool/moonpoollaw01.CableEvery -/
def lc11 : LCode :=
  (.seq (.region [⟨some 3, .box (.tmp 0), none⟩, ⟨some 6, .mv (.const (.bool false)), none⟩]) (.seq (.seq (.region [⟨some 36, .call (.func 15) [], none⟩, ⟨some 37, .un .not (.tmp
    36), none⟩]) (.cond (.tmp 37) (.seq (.region [⟨some 6, .mv (.const (.bool false)), none⟩]) .ret) .skip)) (.seq (.seq (.region [⟨some 38, .load true 3 (.tmp 3), none⟩, ⟨some 39,
    .mv (.tmp 1), none⟩, ⟨some 40, .len (.tmp 39), none⟩, ⟨some 41, .call (.func 28) [(.tmp 38), (.tmp 40)], none⟩, ⟨some 42, .un .not (.tmp 41), none⟩, ⟨some 43, .mv (.tmp 42),
    none⟩, ⟨some 44, .mv (.tmp 2), some (43, false)⟩, ⟨some 45, .len (.tmp 44), some (43, false)⟩, ⟨some 46, .bin .gtr (.tmp 45) (.const (.int .i64 20)), some (43, false)⟩, ⟨some
    47, .pick (.tmp 43) (.const (.bool true)) (.tmp 46), none⟩, ⟨some 48, .mv (.tmp 47), none⟩, ⟨some 49, .load true 3 (.tmp 3), some (48, false)⟩, ⟨some 50, .call (.func 35) [(.tmp
    49)], some (48, false)⟩, ⟨some 51, .bin .neq (.tmp 50) (.const (.int .i64 0)), some (48, false)⟩, ⟨some 52, .pick (.tmp 48) (.const (.bool true)) (.tmp 51), none⟩, ⟨some 53, .mv
    (.tmp 52), none⟩, ⟨some 54, .load true 3 (.tmp 3), some (53, false)⟩, ⟨some 55, .mv (.tmp 1), some (53, false)⟩, ⟨some 56, .call (.func 72) [(.tmp 54), (.tmp 55)], some (53,
    false)⟩, ⟨some 57, .bin .neq (.tmp 56) (.const (.int .i64 0)), some (53, false)⟩, ⟨some 58, .pick (.tmp 53) (.const (.bool true)) (.tmp 57), none⟩]) (.cond (.tmp 58) (.seq
    (.region [⟨some 6, .mv (.const (.bool true)), none⟩]) .ret) .skip)) (.seq (.region [⟨some 7, .mv (.const (.slice none 0 0)), none⟩]) (.seq (.region [⟨some 8, .mv (.const (.slice
    none 0 0)), none⟩, ⟨some 9, .mv (.const (.slice none 0 0)), none⟩]) (.seq (.seq (.region [⟨some 10, .mv (.const (.int .i64 0)), none⟩]) (.block 0 (.loop (.seq (.seq (.region
    [⟨some 59, .mv (.tmp 10), none⟩, ⟨some 60, .mv (.tmp 1), none⟩, ⟨some 61, .len (.tmp 60), none⟩, ⟨some 62, .bin .lss (.tmp 59) (.tmp 61), none⟩]) (.cond (.tmp 62) .skip (.exit
    0))) (.seq (.block 1 (.seq (.region [⟨some 11, .mv (.const (.int .i64 0)), none⟩]) (.seq (.seq (.region [⟨some 65, .mv (.tmp 2), none⟩, ⟨some 66, .len (.tmp 65), none⟩, ⟨some
    67, .bin .gtr (.tmp 66) (.const (.int .i64 0)), none⟩]) (.cond (.tmp 67) (.regionD [⟨some 68, .mv (.tmp 2), none⟩, ⟨some 69, .mv (.tmp 10), none⟩, ⟨some 70, .mv (.tmp 2), none⟩,
    ⟨some 71, .len (.tmp 70), none⟩, ⟨some 72, .bin .rem (.tmp 69) (.tmp 71), none⟩, ⟨some 73, .idx 1 (.tmp 68) (.tmp 72), none⟩, ⟨some 74, .load false 1 (.tmp 73), none⟩, ⟨some 75,
    .mv (.tmp 1), none⟩, ⟨some 76, .mv (.tmp 10), none⟩, ⟨some 77, .idx 2 (.tmp 75) (.tmp 76), none⟩, ⟨some 78, .fld 1 (.tmp 77), none⟩, ⟨some 79, .load false 1 (.tmp 78), none⟩,
    ⟨some 80, .mv (.tmp 1), none⟩, ⟨some 81, .mv (.tmp 10), none⟩, ⟨some 82, .idx 2 (.tmp 80) (.tmp 81), none⟩, ⟨some 83, .fld 0 (.tmp 82), none⟩, ⟨some 84, .load false 1 (.tmp 83),
    none⟩, ⟨some 85, .bin .sub (.tmp 79) (.tmp 84), none⟩, ⟨some 86, .bin .add (.tmp 85) (.const (.int .i64 1)), none⟩, ⟨some 87, .call (.func 67) [(.tmp 74), (.tmp 86)], none⟩,
    ⟨some 11, .mv (.tmp 87), none⟩] [0, 0, 0, 4, 14, 31, 63, 0, 0, 384, 896, 1920, 0, 0, 12288, 28672, 61440, 130944, 262016, 524287, 1048575] [0, 1, 2, 3, 4, 5, 6, 7, 8, 9, 10, 11,
    12, 13, 14, 15, 16, 17, 18, 19, 20]) .skip)) (.seq (.region [⟨some 88, .mv (.tmp 1), none⟩, ⟨some 89, .mv (.tmp 10), none⟩, ⟨some 90, .idx 2 (.tmp 88) (.tmp 89), none⟩, ⟨some
    91, .fld 0 (.tmp 90), none⟩, ⟨some 92, .load false 1 (.tmp 91), none⟩, ⟨some 93, .mv (.tmp 11), none⟩, ⟨some 94, .bin .add (.tmp 92) (.tmp 93), none⟩, ⟨some 12, .mv (.tmp 94),
    none⟩]) (.region [⟨some 95, .mv (.tmp 7), none⟩, ⟨some 96, .mv (.tmp 12), none⟩, ⟨some 97, .lit false 3 1 [(.tmp 96)], none⟩, ⟨some 98, .append true 3 1 8 (.tmp 95) (.tmp 97),
    none⟩, ⟨some 99, .mv (.tmp 8), none⟩, ⟨some 100, .mv (.tmp 12), none⟩, ⟨some 101, .mv (.tmp 11), none⟩, ⟨some 102, .bin .quo (.tmp 101) (.const (.int .i64 2)), none⟩, ⟨some 103,
    .bin .sub (.tmp 100) (.tmp 102), none⟩, ⟨some 104, .mv (.tmp 12), none⟩, ⟨some 105, .build [(.int .i64 0), (.int .i64 0)] [(0, 1, (.tmp 103)), (1, 1, (.tmp 104))], none⟩, ⟨some
    106, .lit false 85 2 [(.tmp 105)], none⟩, ⟨some 107, .append true 85 2 16 (.tmp 99) (.tmp 106), none⟩, ⟨some 108, .mv (.tmp 9), none⟩, ⟨some 109, .mv (.tmp 12), none⟩, ⟨some
    110, .mv (.tmp 12), none⟩, ⟨some 111, .build [(.int .i64 0), (.int .i64 0)] [(0, 1, (.tmp 109)), (1, 1, (.tmp 110))], none⟩, ⟨some 112, .lit false 85 2 [(.tmp 111)], none⟩,
    ⟨some 113, .append true 85 2 16 (.tmp 108) (.tmp 112), none⟩, ⟨some 7, .mv (.tmp 98), none⟩, ⟨some 8, .mv (.tmp 107), none⟩, ⟨some 9, .mv (.tmp 113), none⟩]))))) (.region [⟨some
    63, .mv (.tmp 10), none⟩, ⟨some 64, .bin .add (.tmp 63) (.const (.int .i64 1)), none⟩, ⟨some 10, .mv (.tmp 64), none⟩])))))) (.seq (.region [⟨some 115, .load true 3 (.tmp 3),
    none⟩, ⟨some 116, .call (.func 30) [(.tmp 115)], none⟩, ⟨some 117, .mv (.tmp 7), none⟩, ⟨some 118, .call (.func 31) [(.tmp 117)], none⟩, ⟨some 119, .call (.func 29) [(.tmp 116),
    (.tmp 118)], none⟩, ⟨some 114, .mv (.tmp 119), none⟩, ⟨some 120, .ext (.tmp 114) 0, none⟩, ⟨some 121, .ext (.tmp 114) 1, none⟩, ⟨some 13, .mv (.tmp 120), none⟩, ⟨some 14, .mv
    (.tmp 121), none⟩]) (.seq (.region [⟨some 123, .load true 3 (.tmp 3), none⟩, ⟨some 124, .call (.func 30) [(.tmp 123)], none⟩, ⟨some 125, .mv (.tmp 1), none⟩, ⟨some 126, .call
    (.func 48) [(.tmp 125)], none⟩, ⟨some 127, .call (.func 68) [(.tmp 124), (.tmp 126)], none⟩, ⟨some 122, .mv (.tmp 127), none⟩, ⟨some 128, .ext (.tmp 122) 0, none⟩, ⟨some 129,
    .ext (.tmp 122) 1, none⟩, ⟨some 15, .mv (.tmp 128), none⟩, ⟨some 16, .mv (.tmp 129), none⟩]) (.seq (.region [⟨some 131, .load true 3 (.tmp 3), none⟩, ⟨some 132, .call (.func 30)
    [(.tmp 131)], none⟩, ⟨some 133, .mv (.tmp 1), none⟩, ⟨some 134, .call (.func 48) [(.tmp 133)], none⟩, ⟨some 135, .call (.func 69) [(.tmp 132), (.tmp 134)], none⟩, ⟨some 130, .mv
    (.tmp 135), none⟩, ⟨some 136, .ext (.tmp 130) 0, none⟩, ⟨some 137, .ext (.tmp 130) 1, none⟩, ⟨some 17, .mv (.tmp 136), none⟩, ⟨some 18, .mv (.tmp 137), none⟩]) (.seq (.region
    [⟨some 139, .load true 3 (.tmp 3), none⟩, ⟨some 140, .call (.func 30) [(.tmp 139)], none⟩, ⟨some 141, .mv (.tmp 8), none⟩, ⟨some 142, .call (.func 48) [(.tmp 141)], none⟩, ⟨some
    143, .call (.func 68) [(.tmp 140), (.tmp 142)], none⟩, ⟨some 138, .mv (.tmp 143), none⟩, ⟨some 144, .ext (.tmp 138) 0, none⟩, ⟨some 145, .ext (.tmp 138) 1, none⟩, ⟨some 19, .mv
    (.tmp 144), none⟩, ⟨some 20, .mv (.tmp 145), none⟩]) (.seq (.region [⟨some 147, .load true 3 (.tmp 3), none⟩, ⟨some 148, .call (.func 30) [(.tmp 147)], none⟩, ⟨some 149, .mv
    (.tmp 9), none⟩, ⟨some 150, .call (.func 48) [(.tmp 149)], none⟩, ⟨some 151, .call (.func 68) [(.tmp 148), (.tmp 150)], none⟩, ⟨some 146, .mv (.tmp 151), none⟩, ⟨some 152, .ext
    (.tmp 146) 0, none⟩, ⟨some 153, .ext (.tmp 146) 1, none⟩, ⟨some 21, .mv (.tmp 152), none⟩, ⟨some 22, .mv (.tmp 153), none⟩]) (.seq (.seq (.region [⟨some 154, .mv (.tmp 14),
    none⟩, ⟨some 155, .bin .neq (.tmp 154) (.const (.int .i64 0)), none⟩, ⟨some 156, .mv (.tmp 155), none⟩, ⟨some 157, .mv (.tmp 16), some (156, false)⟩, ⟨some 158, .bin .neq (.tmp
    157) (.const (.int .i64 0)), some (156, false)⟩, ⟨some 159, .pick (.tmp 156) (.const (.bool true)) (.tmp 158), none⟩, ⟨some 160, .mv (.tmp 159), none⟩, ⟨some 161, .mv (.tmp 18),
    some (160, false)⟩, ⟨some 162, .bin .neq (.tmp 161) (.const (.int .i64 0)), some (160, false)⟩, ⟨some 163, .pick (.tmp 160) (.const (.bool true)) (.tmp 162), none⟩, ⟨some 164,
    .mv (.tmp 163), none⟩, ⟨some 165, .mv (.tmp 20), some (164, false)⟩, ⟨some 166, .bin .neq (.tmp 165) (.const (.int .i64 0)), some (164, false)⟩, ⟨some 167, .pick (.tmp 164)
    (.const (.bool true)) (.tmp 166), none⟩, ⟨some 168, .mv (.tmp 167), none⟩, ⟨some 169, .mv (.tmp 22), some (168, false)⟩, ⟨some 170, .bin .neq (.tmp 169) (.const (.int .i64 0)),
    some (168, false)⟩, ⟨some 171, .pick (.tmp 168) (.const (.bool true)) (.tmp 170), none⟩, ⟨some 172, .mv (.tmp 171), none⟩, ⟨some 173, .mv (.tmp 13), some (172, false)⟩, ⟨some
    174, .len (.tmp 173), some (172, false)⟩, ⟨some 175, .mv (.tmp 1), some (172, false)⟩, ⟨some 176, .len (.tmp 175), some (172, false)⟩, ⟨some 177, .bin .neq (.tmp 174) (.tmp
    176), some (172, false)⟩, ⟨some 178, .pick (.tmp 172) (.const (.bool true)) (.tmp 177), none⟩, ⟨some 179, .mv (.tmp 178), none⟩, ⟨some 180, .mv (.tmp 15), some (179, false)⟩,
    ⟨some 181, .len (.tmp 180), some (179, false)⟩, ⟨some 182, .mv (.tmp 1), some (179, false)⟩, ⟨some 183, .len (.tmp 182), some (179, false)⟩, ⟨some 184, .bin .neq (.tmp 181)
    (.tmp 183), some (179, false)⟩, ⟨some 185, .pick (.tmp 179) (.const (.bool true)) (.tmp 184), none⟩, ⟨some 186, .mv (.tmp 185), none⟩, ⟨some 187, .mv (.tmp 17), some (186,
    false)⟩, ⟨some 188, .len (.tmp 187), some (186, false)⟩, ⟨some 189, .mv (.tmp 1), some (186, false)⟩, ⟨some 190, .len (.tmp 189), some (186, false)⟩, ⟨some 191, .bin .neq (.tmp
    188) (.tmp 190), some (186, false)⟩, ⟨some 192, .pick (.tmp 186) (.const (.bool true)) (.tmp 191), none⟩, ⟨some 193, .mv (.tmp 192), none⟩, ⟨some 194, .mv (.tmp 19), some (193,
    false)⟩, ⟨some 195, .len (.tmp 194), some (193, false)⟩, ⟨some 196, .mv (.tmp 1), some (193, false)⟩, ⟨some 197, .len (.tmp 196), some (193, false)⟩, ⟨some 198, .bin .neq (.tmp
    195) (.tmp 197), some (193, false)⟩, ⟨some 199, .pick (.tmp 193) (.const (.bool true)) (.tmp 198), none⟩, ⟨some 200, .mv (.tmp 199), none⟩, ⟨some 201, .mv (.tmp 21), some (200,
    false)⟩, ⟨some 202, .len (.tmp 201), some (200, false)⟩, ⟨some 203, .mv (.tmp 1), some (200, false)⟩, ⟨some 204, .len (.tmp 203), some (200, false)⟩, ⟨some 205, .bin .neq (.tmp
    202) (.tmp 204), some (200, false)⟩, ⟨some 206, .pick (.tmp 200) (.const (.bool true)) (.tmp 205), none⟩]) (.cond (.tmp 206) (.seq (.region [⟨some 6, .mv (.const (.bool false)),
    none⟩]) .ret) .skip)) (.seq (.seq (.region [⟨some 23, .mv (.const (.int .i64 0)), none⟩]) (.block 2 (.loop (.seq (.seq (.region [⟨some 207, .mv (.tmp 23), none⟩, ⟨some 208, .mv
    (.tmp 1), none⟩, ⟨some 209, .len (.tmp 208), none⟩, ⟨some 210, .bin .lss (.tmp 207) (.tmp 209), none⟩]) (.cond (.tmp 210) .skip (.exit 2))) (.seq (.block 3 (.seq (.region [⟨some
    213, .mv (.tmp 13), none⟩, ⟨some 214, .mv (.tmp 23), none⟩, ⟨some 215, .idx 2 (.tmp 213) (.tmp 214), none⟩, ⟨some 216, .fld 0 (.tmp 215), none⟩, ⟨some 217, .load false 1 (.tmp
    216), none⟩, ⟨some 24, .mv (.tmp 217), none⟩]) (.seq (.regionD [⟨some 218, .mv (.tmp 24), none⟩, ⟨some 219, .mv (.tmp 24), none⟩, ⟨some 220, .bin .mul (.tmp 218) (.tmp 219),
    none⟩, ⟨some 221, .mv (.tmp 13), none⟩, ⟨some 222, .mv (.tmp 23), none⟩, ⟨some 223, .idx 2 (.tmp 221) (.tmp 222), none⟩, ⟨some 224, .fld 1 (.tmp 223), none⟩, ⟨some 225, .load
    false 1 (.tmp 224), none⟩, ⟨some 226, .mv (.tmp 13), none⟩, ⟨some 227, .mv (.tmp 23), none⟩, ⟨some 228, .idx 2 (.tmp 226) (.tmp 227), none⟩, ⟨some 229, .fld 1 (.tmp 228), none⟩,
    ⟨some 230, .load false 1 (.tmp 229), none⟩, ⟨some 231, .bin .mul (.tmp 225) (.tmp 230), none⟩, ⟨some 232, .bin .add (.tmp 220) (.tmp 231), none⟩, ⟨some 25, .mv (.tmp 232),
    none⟩] [0, 0, 3, 0, 0, 24, 56, 120, 0, 0, 768, 1792, 3840, 8184, 16383, 32767] [0, 1, 2, 3, 4, 5, 6, 7, 8, 9, 10, 11, 12, 13, 14, 15]) (.seq (.regionD [⟨some 233, .mv (.tmp 24),
    none⟩, ⟨some 234, .mv (.tmp 19), none⟩, ⟨some 235, .mv (.tmp 23), none⟩, ⟨some 236, .idx 2 (.tmp 234) (.tmp 235), none⟩, ⟨some 237, .fld 0 (.tmp 236), none⟩, ⟨some 238, .load
    false 1 (.tmp 237), none⟩, ⟨some 239, .mv (.tmp 19), none⟩, ⟨some 240, .mv (.tmp 23), none⟩, ⟨some 241, .idx 2 (.tmp 239) (.tmp 240), none⟩, ⟨some 242, .fld 1 (.tmp 241), none⟩,
    ⟨some 243, .load false 1 (.tmp 242), none⟩, ⟨some 244, .call (.func 16) [(.tmp 233), (.tmp 238), (.tmp 243)], none⟩, ⟨some 245, .un .not (.tmp 244), none⟩, ⟨some 246, .mv (.tmp
    245), none⟩, ⟨some 247, .mv (.tmp 19), some (246, false)⟩, ⟨some 248, .mv (.tmp 23), some (246, false)⟩, ⟨some 249, .idx 2 (.tmp 247) (.tmp 248), some (246, false)⟩, ⟨some 250,
    .fld 0 (.tmp 249), some (246, false)⟩, ⟨some 251, .load false 1 (.tmp 250), some (246, false)⟩, ⟨some 252, .mv (.tmp 15), some (246, false)⟩, ⟨some 253, .mv (.tmp 23), some
    (246, false)⟩, ⟨some 254, .idx 2 (.tmp 252) (.tmp 253), some (246, false)⟩, ⟨some 255, .fld 0 (.tmp 254), some (246, false)⟩, ⟨some 256, .load false 1 (.tmp 255), some (246,
    false)⟩, ⟨some 257, .bin .lss (.tmp 251) (.tmp 256), some (246, false)⟩, ⟨some 258, .pick (.tmp 246) (.const (.bool true)) (.tmp 257), none⟩, ⟨some 259, .mv (.tmp 258), none⟩,
    ⟨some 260, .mv (.tmp 19), some (259, false)⟩, ⟨some 261, .mv (.tmp 23), some (259, false)⟩, ⟨some 262, .idx 2 (.tmp 260) (.tmp 261), some (259, false)⟩, ⟨some 263, .fld 1 (.tmp
    262), some (259, false)⟩, ⟨some 264, .load false 1 (.tmp 263), some (259, false)⟩, ⟨some 265, .mv (.tmp 15), some (259, false)⟩, ⟨some 266, .mv (.tmp 23), some (259, false)⟩,
    ⟨some 267, .idx 2 (.tmp 265) (.tmp 266), some (259, false)⟩, ⟨some 268, .fld 1 (.tmp 267), some (259, false)⟩, ⟨some 269, .load false 1 (.tmp 268), some (259, false)⟩, ⟨some
    270, .bin .gtr (.tmp 264) (.tmp 269), some (259, false)⟩, ⟨some 271, .pick (.tmp 259) (.const (.bool true)) (.tmp 270), none⟩, ⟨some 272, .mv (.tmp 271), none⟩, ⟨some 273, .mv
    (.tmp 25), some (272, false)⟩, ⟨some 274, .mv (.tmp 17), some (272, false)⟩, ⟨some 275, .mv (.tmp 23), some (272, false)⟩, ⟨some 276, .idx 2 (.tmp 274) (.tmp 275), some (272,
    false)⟩, ⟨some 277, .fld 0 (.tmp 276), some (272, false)⟩, ⟨some 278, .load false 1 (.tmp 277), some (272, false)⟩, ⟨some 279, .mv (.tmp 17), some (272, false)⟩, ⟨some 280, .mv
    (.tmp 23), some (272, false)⟩, ⟨some 281, .idx 2 (.tmp 279) (.tmp 280), some (272, false)⟩, ⟨some 282, .fld 1 (.tmp 281), some (272, false)⟩, ⟨some 283, .load false 1 (.tmp
    282), some (272, false)⟩, ⟨some 284, .call (.func 16) [(.tmp 273), (.tmp 278), (.tmp 283)], some (272, false)⟩, ⟨some 285, .un .not (.tmp 284), some (272, false)⟩, ⟨some 286,
    .pick (.tmp 272) (.const (.bool true)) (.tmp 285), none⟩, ⟨some 287, .mv (.tmp 286), none⟩, ⟨some 288, .mv (.tmp 21), some (287, false)⟩, ⟨some 289, .mv (.tmp 23), some (287,
    false)⟩, ⟨some 290, .idx 2 (.tmp 288) (.tmp 289), some (287, false)⟩, ⟨some 291, .load true 2 (.tmp 290), some (287, false)⟩, ⟨some 292, .mv (.tmp 24), some (287, false)⟩, ⟨some
    293, .mv (.tmp 24), some (287, false)⟩, ⟨some 294, .build [(.int .i64 0), (.int .i64 0)] [(0, 1, (.tmp 292)), (1, 1, (.tmp 293))], some (287, false)⟩, ⟨some 295, .eqA true 2
    (.tmp 291) (.tmp 294), some (287, false)⟩, ⟨some 296, .pick (.tmp 287) (.const (.bool true)) (.tmp 295), none⟩] [0, 0, 0, 6, 14, 30, 0, 0, 192, 448, 960, 2047, 4095, 8191,
    16383, 16383, 65535, 131071, 262143, 16383, 16383, 1589247, 3686399, 7880703, 16777215, 33554431, 67108863, 134217727, 134217727, 536870911, 1073741823, 2147483647, 134217727,
    134217727, 13019119615, 30198988799, 64558727167, 137438953471, 274877906943, 549755813887, 1099511627775, 1099511627775, 1099511627775, 7696581394431, 16492674416639,
    34084860461055, 1099511627775, 1099511627775, 212205744160767, 493680720871423, 1056630674292735, 2251799813685247, 4503599627370495, 9007199254740991, 18014398509481983,
    36028797018963967, 36028797018963967, 144115188075855871, 288230376151711743, 36028797018963967, 36028797018963967, 1765411053929234431, 4611686018427387903,
    9223372036854775807] [0, 1, 2, 3, 4, 5, 6, 7, 8, 9, 10, 11, 12, 13, 14, 15, 16, 17, 18, 19, 20, 21, 22, 23, 24, 25, 26, 27, 28, 29, 30, 31, 32, 33, 34, 35, 36, 37, 38, 39, 40,
    41, 42, 43, 44, 45, 46, 47, 48, 49, 50, 51, 52, 53, 54, 55, 56, 57, 58, 59, 60, 61, 62, 63]) (.cond (.tmp 296) (.seq (.region [⟨some 6, .mv (.const (.bool false)), none⟩]) .ret)
    .skip))))) (.region [⟨some 211, .mv (.tmp 23), none⟩, ⟨some 212, .bin .add (.tmp 211) (.const (.int .i64 1)), none⟩, ⟨some 23, .mv (.tmp 212), none⟩])))))) (.seq (.region [⟨some
    298, .load true 3 (.tmp 3), none⟩, ⟨some 299, .call (.func 30) [(.tmp 298)], none⟩, ⟨some 300, .mv (.tmp 1), none⟩, ⟨some 301, .call (.func 48) [(.tmp 300)], none⟩, ⟨some 302,
    .call (.func 70) [(.tmp 299), (.tmp 301)], none⟩, ⟨some 297, .mv (.tmp 302), none⟩, ⟨some 303, .ext (.tmp 297) 0, none⟩, ⟨some 304, .ext (.tmp 297) 1, none⟩, ⟨some 26, .alloc
    [(.int .i64 0), (.int .i64 0)], none⟩, ⟨none, .store 2 (.tmp 26) (.tmp 303), none⟩, ⟨some 27, .mv (.tmp 304), none⟩]) (.seq (.region [⟨some 306, .load true 3 (.tmp 3), none⟩,
    ⟨some 307, .call (.func 30) [(.tmp 306)], none⟩, ⟨some 308, .mv (.tmp 7), none⟩, ⟨some 309, .call (.func 31) [(.tmp 308)], none⟩, ⟨some 310, .call (.func 56) [(.tmp 307), (.tmp
    309)], none⟩, ⟨some 305, .mv (.tmp 310), none⟩, ⟨some 311, .ext (.tmp 305) 0, none⟩, ⟨some 312, .ext (.tmp 305) 1, none⟩, ⟨some 28, .alloc [(.int .i64 0), (.int .i64 0)], none⟩,
    ⟨none, .store 2 (.tmp 28) (.tmp 311), none⟩, ⟨some 29, .mv (.tmp 312), none⟩]) (.seq (.region [⟨some 314, .load true 3 (.tmp 3), none⟩, ⟨some 315, .call (.func 30) [(.tmp 314)],
    none⟩, ⟨some 316, .mv (.tmp 8), none⟩, ⟨some 317, .call (.func 48) [(.tmp 316)], none⟩, ⟨some 318, .call (.func 70) [(.tmp 315), (.tmp 317)], none⟩, ⟨some 313, .mv (.tmp 318),
    none⟩, ⟨some 319, .ext (.tmp 313) 0, none⟩, ⟨some 320, .ext (.tmp 313) 1, none⟩, ⟨some 30, .alloc [(.int .i64 0), (.int .i64 0)], none⟩, ⟨none, .store 2 (.tmp 30) (.tmp 319),
    none⟩, ⟨some 31, .mv (.tmp 320), none⟩]) (.seq (.region [⟨some 322, .load true 3 (.tmp 3), none⟩, ⟨some 323, .call (.func 30) [(.tmp 322)], none⟩, ⟨some 324, .mv (.tmp 1),
    none⟩, ⟨some 325, .call (.func 48) [(.tmp 324)], none⟩, ⟨some 326, .call (.func 71) [(.tmp 323), (.tmp 325)], none⟩, ⟨some 321, .mv (.tmp 326), none⟩, ⟨some 327, .ext (.tmp 321)
    0, none⟩, ⟨some 328, .ext (.tmp 321) 1, none⟩, ⟨some 32, .mv (.tmp 327), none⟩, ⟨some 33, .mv (.tmp 328), none⟩]) (.seq (.region [⟨some 330, .load true 3 (.tmp 3), none⟩, ⟨some
    331, .call (.func 30) [(.tmp 330)], none⟩, ⟨some 332, .mv (.tmp 7), none⟩, ⟨some 333, .call (.func 31) [(.tmp 332)], none⟩, ⟨some 334, .call (.func 57) [(.tmp 331), (.tmp 333)],
    none⟩, ⟨some 329, .mv (.tmp 334), none⟩, ⟨some 335, .ext (.tmp 329) 0, none⟩, ⟨some 336, .ext (.tmp 329) 1, none⟩, ⟨some 34, .alloc [(.int .i64 0), (.int .i64 0)], none⟩, ⟨none,
    .store 2 (.tmp 34) (.tmp 335), none⟩, ⟨some 35, .mv (.tmp 336), none⟩]) (.seq (.seq (.region [⟨some 337, .mv (.tmp 27), none⟩, ⟨some 338, .mv (.tmp 29), none⟩, ⟨some 339, .bin
    .neq (.tmp 337) (.tmp 338), none⟩, ⟨some 340, .mv (.tmp 339), none⟩, ⟨some 341, .mv (.tmp 27), some (340, false)⟩, ⟨some 342, .mv (.tmp 31), some (340, false)⟩, ⟨some 343, .bin
    .neq (.tmp 341) (.tmp 342), some (340, false)⟩, ⟨some 344, .pick (.tmp 340) (.const (.bool true)) (.tmp 343), none⟩, ⟨some 345, .mv (.tmp 344), none⟩, ⟨some 346, .mv (.tmp 27),
    some (345, false)⟩, ⟨some 347, .mv (.tmp 33), some (345, false)⟩, ⟨some 348, .bin .neq (.tmp 346) (.tmp 347), some (345, false)⟩, ⟨some 349, .pick (.tmp 345) (.const (.bool
    true)) (.tmp 348), none⟩, ⟨some 350, .mv (.tmp 349), none⟩, ⟨some 351, .mv (.tmp 27), some (350, false)⟩, ⟨some 352, .mv (.tmp 35), some (350, false)⟩, ⟨some 353, .bin .neq
    (.tmp 351) (.tmp 352), some (350, false)⟩, ⟨some 354, .pick (.tmp 350) (.const (.bool true)) (.tmp 353), none⟩]) (.cond (.tmp 354) (.seq (.region [⟨some 6, .mv (.const (.bool
    false)), none⟩]) .ret) .skip)) (.seq (.region [⟨some 355, .mv (.tmp 27), none⟩, ⟨some 356, .bin .neq (.tmp 355) (.const (.int .i64 0)), none⟩, ⟨some 357, .mv (.tmp 356), none⟩,
    ⟨some 358, .fld 0 (.tmp 26), some (357, false)⟩, ⟨some 359, .load false 1 (.tmp 358), some (357, false)⟩, ⟨some 360, .fld 0 (.tmp 30), some (357, false)⟩, ⟨some 361, .load false
    1 (.tmp 360), some (357, false)⟩, ⟨some 362, .bin .leq (.tmp 359) (.tmp 361), some (357, false)⟩, ⟨some 363, .mv (.tmp 362), some (357, false)⟩, ⟨some 364, .fld 1 (.tmp 30),
    some (363, true)⟩, ⟨some 365, .load false 1 (.tmp 364), some (363, true)⟩, ⟨some 366, .fld 1 (.tmp 26), some (363, true)⟩, ⟨some 367, .load false 1 (.tmp 366), some (363,
    true)⟩, ⟨some 368, .bin .leq (.tmp 365) (.tmp 367), some (363, true)⟩, ⟨some 369, .pick (.tmp 363) (.tmp 368) (.const (.bool false)), some (357, false)⟩, ⟨some 370, .mv (.tmp
    369), some (357, false)⟩, ⟨some 371, .fld 0 (.tmp 30), some (370, true)⟩, ⟨some 372, .load false 1 (.tmp 371), some (370, true)⟩, ⟨some 373, .fld 0 (.tmp 28), some (370, true)⟩,
    ⟨some 374, .load false 1 (.tmp 373), some (370, true)⟩, ⟨some 375, .bin .leq (.tmp 372) (.tmp 374), some (370, true)⟩, ⟨some 376, .pick (.tmp 370) (.tmp 375) (.const (.bool
    false)), some (357, false)⟩, ⟨some 377, .mv (.tmp 376), some (357, false)⟩, ⟨some 378, .fld 1 (.tmp 28), some (377, true)⟩, ⟨some 379, .load false 1 (.tmp 378), some (377,
    true)⟩, ⟨some 380, .fld 1 (.tmp 30), some (377, true)⟩, ⟨some 381, .load false 1 (.tmp 380), some (377, true)⟩, ⟨some 382, .bin .leq (.tmp 379) (.tmp 381), some (377, true)⟩,
    ⟨some 383, .pick (.tmp 377) (.tmp 382) (.const (.bool false)), some (357, false)⟩, ⟨some 384, .mv (.tmp 383), some (357, false)⟩, ⟨some 385, .fld 1 (.tmp 34), some (384, true)⟩,
    ⟨some 386, .load false 1 (.tmp 385), some (384, true)⟩, ⟨some 387, .mv (.tmp 32), some (384, true)⟩, ⟨some 388, .bin .leq (.tmp 386) (.tmp 387), some (384, true)⟩, ⟨some 389,
    .pick (.tmp 384) (.tmp 388) (.const (.bool false)), some (357, false)⟩, ⟨some 390, .mv (.tmp 389), some (357, false)⟩, ⟨some 391, .fld 0 (.tmp 34), some (390, true)⟩, ⟨some 392,
    .load false 1 (.tmp 391), some (390, true)⟩, ⟨some 393, .fld 1 (.tmp 34), some (390, true)⟩, ⟨some 394, .load false 1 (.tmp 393), some (390, true)⟩, ⟨some 395, .bin .leq (.tmp
    392) (.tmp 394), some (390, true)⟩, ⟨some 396, .pick (.tmp 390) (.tmp 395) (.const (.bool false)), some (357, false)⟩, ⟨some 397, .pick (.tmp 357) (.const (.bool true)) (.tmp
    396), none⟩, ⟨some 6, .mv (.tmp 397), none⟩]) .ret))))))))))))))))))))
theorem low11 : lowF Try.prog [98, 107, 113] Try.f11 = some (398, lc11, [.tmp 6]) := by kernel_rfl
theorem fn11 : FnOk Try.prog 11 398 lc11 [.tmp 6] := ⟨Try.call11, [98, 107, 113], _, Try.func11, low11⟩
end Go.Pw

set_option linter.unusedSimpArgs false
namespace Go.Pw
open Go Go.Proofs
theorem opL_pz {x z : Int} {l : List Lk} {b : List Rg} : ∀ k : Nat, (Ln.mk x z l b).pz k = (stl x z l).pz k
  | 0 => rfl
  | k + 1 => by
    show (Ln.mk x z l b).pz k + _ = (stl x z l).pz k + _
    rw [opL_pz k]; rfl
theorem slk_eq {x z : Int} {l : List Lk} {b : List Rg} : slkE (Ln.mk x z l b) = slkN x z l := by
  have hm : ∀ k, k < l.length → (slP (stl x z l) k = true → ¬ 0 < (Ln.mk x z l b).pz (k + 1)) := fun k hk h => by
    rw [opL_pz]; simp only [slP, decide_eq_true_eq] at h; omega
  simp only [slkE, slkN]
  by_cases h : ∀ k, k < l.length → 0 < (Ln.mk x z l b).pz (k + 1)
  · rw [if_pos h, if_pos]
    simp only [fltL, List.length_eq_zero_iff, List.map_eq_nil_iff, List.filter_eq_nil_iff, List.mem_range]
    intro k hk hs
    exact hm k hk hs (h k hk)
  · rw [if_neg h, if_neg]
    intro h2
    apply h
    simp only [fltL, List.length_eq_zero_iff, List.map_eq_nil_iff, List.filter_eq_nil_iff, List.mem_range] at h2
    intro k hk
    have := h2 k hk
    rw [opL_pz]
    simp only [slP, decide_eq_true_eq] at this
    omega
end Go.Pw

set_option linter.unusedSimpArgs false
set_option linter.unusedVariables false
namespace Go.Pw
open Go Go.Proofs
abbrev plF (L : Ln) (i : Nat) : Rg := (L.pl (i + 1), L.ph (i + 1))
theorem C68 {x z : Int} {l : List Lk} {b : List Rg} : (l.length ≤ 1000000 ∧ b.length ≤ 1000000) → PFD Try.prog 68 [.agg [int x, int z, trs l], .c (prs b)]
    (.tup [.c (prs (orE (lbE x z l b).2 (accL (plF ⟨x, z, l, b⟩) l.length))), vi .i64 (lbE x z l b).2]) := fun hl => by
  have c1 := C127 (x := x) (z := z) hl
  by_cases h0 : (lbE x z l b).2 = 0
  · have hL : (Ln.mk x z l b).Ok := lbE_ok h0
    rw [orE, if_pos h0]
    obtain ⟨L, hLe⟩ : ∃ L, L = Ln.mk x z l b := ⟨_, rfl⟩
    rw [← hLe] at hL c1 ⊢
    rw [show l.length = L.l.length by rw [hLe]]
    refine PFD.of (vs := [_, _]) fn68 rfl (by (simp only [cloL, clo, cloC, cloCs, and_self])) ?_
    (repeat' first | (refine Owe.mk ?_ ?_; (· (first | trivial | omega | ((try simp only [R64, true_and, and_true, Int.toNat_natCast, List.length_cons, List.length_nil]); omega)))) | (refine Fork.same ?_; first | refine Fork.dec (fun h => ?_) (fun h => ?_) | refine Fork.ndec (fun h => ?_) (fun h => ?_) | refine Fork.mk (fun h => ?_) (fun h => ?_)) | (refine OpsL.same ?_; first | refine Ops.pc rfl (Fits.eq rfl) c1 rfl ?_ | (refine Ops.pcp rfl (Fits.eq rfl) c1 rfl ?_ ?_; (· (first | trivial | omega | ((try simp only [R64, true_and, and_true, Int.toNat_natCast, List.length_cons, List.length_nil]); omega)))) | refine Ops.pc rfl (Fits.veq (by (repeat' first | exact True.intro | exact VEq.refl _ | exact EEq.same _ | exact CEq.refl _ | exact VEq.int rfl | apply VEq.tru | apply VEq.fls | apply VEq.bool | apply VEq.int | exact VEq.nill rfl | exact VEq.zl rfl | exact VEq.nil | exact VEq.li_1 | exact VEq.li_2 | exact VEq.li_3 | exact VEq.li_4 | exact VEq.lp_1 | exact VEq.lp_2 | exact VEq.lp_3 | exact VEq.lp_4 | exact VEq.lt_1 | exact VEq.lt_2 | exact VEq.lt_3 | apply VEq.ms | apply VEq.sll | apply VEq.aggs | apply EEq.boxs | apply EEq.app1 | apply EEq.app2 | apply EEq.app3 | apply CEq.ms | apply CEq.int | apply CEq.sll | exact CEq.nill rfl | apply And.intro | exact rfl))) c1 rfl ?_ | (refine Ops.pcp rfl (Fits.veq (by (repeat' first | exact True.intro | exact VEq.refl _ | exact EEq.same _ | exact CEq.refl _ | exact VEq.int rfl | apply VEq.tru | apply VEq.fls | apply VEq.bool | apply VEq.int | exact VEq.nill rfl | exact VEq.zl rfl | exact VEq.nil | exact VEq.li_1 | exact VEq.li_2 | exact VEq.li_3 | exact VEq.li_4 | exact VEq.lp_1 | exact VEq.lp_2 | exact VEq.lp_3 | exact VEq.lp_4 | exact VEq.lt_1 | exact VEq.lt_2 | exact VEq.lt_3 | apply VEq.ms | apply VEq.sll | apply VEq.aggs | apply EEq.boxs | apply EEq.app1 | apply EEq.app2 | apply EEq.app3 | apply CEq.ms | apply CEq.int | apply CEq.sll | exact CEq.nill rfl | apply And.intro | exact rfl))) c1 rfl ?_ ?_; (· (first | trivial | omega | ((try simp only [R64, true_and, and_true, Int.toNat_natCast, List.length_cons, List.length_nil]); omega)))) ) | (refine OpsDL.same ?_; first | refine OpsD.pc rfl (Fits.eq rfl) c1 rfl ?_ | (refine OpsD.pcp rfl (Fits.eq rfl) c1 rfl ?_ ?_; (· (first | trivial | omega | ((try simp only [R64, true_and, and_true, Int.toNat_natCast, List.length_cons, List.length_nil]); omega)))) | refine OpsD.pc rfl (Fits.veq (by (repeat' first | exact True.intro | exact VEq.refl _ | exact EEq.same _ | exact CEq.refl _ | exact VEq.int rfl | apply VEq.tru | apply VEq.fls | apply VEq.bool | apply VEq.int | exact VEq.nill rfl | exact VEq.zl rfl | exact VEq.nil | exact VEq.li_1 | exact VEq.li_2 | exact VEq.li_3 | exact VEq.li_4 | exact VEq.lp_1 | exact VEq.lp_2 | exact VEq.lp_3 | exact VEq.lp_4 | exact VEq.lt_1 | exact VEq.lt_2 | exact VEq.lt_3 | apply VEq.ms | apply VEq.sll | apply VEq.aggs | apply EEq.boxs | apply EEq.app1 | apply EEq.app2 | apply EEq.app3 | apply CEq.ms | apply CEq.int | apply CEq.sll | exact CEq.nill rfl | apply And.intro | exact rfl))) c1 rfl ?_ | (refine OpsD.pcp rfl (Fits.veq (by (repeat' first | exact True.intro | exact VEq.refl _ | exact EEq.same _ | exact CEq.refl _ | exact VEq.int rfl | apply VEq.tru | apply VEq.fls | apply VEq.bool | apply VEq.int | exact VEq.nill rfl | exact VEq.zl rfl | exact VEq.nil | exact VEq.li_1 | exact VEq.li_2 | exact VEq.li_3 | exact VEq.li_4 | exact VEq.lp_1 | exact VEq.lp_2 | exact VEq.lp_3 | exact VEq.lp_4 | exact VEq.lt_1 | exact VEq.lt_2 | exact VEq.lt_3 | apply VEq.ms | apply VEq.sll | apply VEq.aggs | apply EEq.boxs | apply EEq.app1 | apply EEq.app2 | apply EEq.app3 | apply CEq.ms | apply CEq.int | apply CEq.sll | exact CEq.nill rfl | apply And.intro | exact rfl))) c1 rfl ?_ ?_; (· (first | trivial | omega | ((try simp only [R64, true_and, and_true, Int.toNat_natCast, List.length_cons, List.length_nil]); omega)))) ) | refine MvQ.stay ?_ | refine Owe.mk ?_ ?_)
    · exact absurd h0 h
    refine Ops.cs rfl rfl (CallS.of fn113 rfl ?_); refine Sat.keep [8, 21] ?_; refine Sat.rf rfl rfl (CallS.of fn141 rfl ?_); (repeat' first | (refine Owe.mk ?_ ?_; (· (first | trivial | omega | ((try simp only [R64, true_and, and_true, Int.toNat_natCast, List.length_cons, List.length_nil]); omega)))) | (refine Fork.same ?_; first | refine Fork.dec (fun h => ?_) (fun h => ?_) | refine Fork.ndec (fun h => ?_) (fun h => ?_) | refine Fork.mk (fun h => ?_) (fun h => ?_)) | refine MvQ.stay ?_ | refine Owe.mk ?_ ?_)
    refine Sat.nilB 2 0 85 2 (fun i => r2 (([] : List Rg).getD i (0, 0))) rfl rfl ?_
    refine Sat.lp (fun k : Nat => ⟨[(24, vi .i64 k), (23, vi .i64 L.l.length), (22, .c (trs L.l)), (3, .c (.bp 5 0)), (1, .c (.bp 3 0)), (0, .c (.yd 4))], [(5, .box [int (L.pl k), int (L.ph k), int (L.pz k), int (L.hh k)]), (4, .lp [(8, .c (.bp 2 0)), (21, .c (.fn 141 [3]))] .ready none (RR Try.prog 30 [22, 23] ra68 rb68)), (3, .box L.v), (2, .box [.ms 6 (accL (plF L) k).length]), (6, rowv 85 2 r2 (0, 0) (accL (plF L) k))], 7⟩)
      (fun k => k ≤ L.l.length) (fun k => L.l.length - k) 0 [5, 6] (Nat.zero_le _) ?_ ?_
    · refine ⟨rfl, ?_, ?_⟩ <;> (repeat' first | exact True.intro | exact VEq.refl _ | exact EEq.same _ | exact CEq.refl _ | exact VEq.int rfl | apply VEq.tru | apply VEq.fls | apply VEq.bool | apply VEq.int | exact VEq.nill rfl | exact VEq.zl rfl | exact VEq.nil | exact VEq.li_1 | exact VEq.li_2 | exact VEq.li_3 | exact VEq.li_4 | exact VEq.lp_1 | exact VEq.lp_2 | exact VEq.lp_3 | exact VEq.lp_4 | exact VEq.lt_1 | exact VEq.lt_2 | exact VEq.lt_3 | apply VEq.ms | apply VEq.sll | apply VEq.aggs | apply EEq.boxs | apply EEq.app1 | apply EEq.app2 | apply EEq.app3 | apply CEq.ms | apply CEq.int | apply CEq.sll | exact CEq.nill rfl | apply And.intro | exact rfl)
    · intro k hk
      refine Fork.dec (fun hlt => ?_) (fun hlt => ?_)
      · have hlt : k < L.l.length := by omega
        have hrd := hL.round hlt
        have hn := accL_len (plF L) k
        have hs := accL_succ (plF L) k
        (repeat' first | (refine Owe.mk ?_ ?_; (· (first | trivial | omega | ((try simp only [R64, true_and, and_true, Int.toNat_natCast, List.length_cons, List.length_nil]); omega)))) | (refine Fork.same ?_; first | refine Fork.dec (fun h => ?_) (fun h => ?_) | refine Fork.ndec (fun h => ?_) (fun h => ?_) | refine Fork.mk (fun h => ?_) (fun h => ?_)) | refine MvQ.stay ?_ | refine Owe.mk ?_ ?_)
        refine Ops.yd rfl rfl rfl rfl rfl ?_
        (repeat' first | (refine Owe.mk ?_ ?_; (· (first | trivial | omega | ((try simp only [R64, true_and, and_true, Int.toNat_natCast, List.length_cons, List.length_nil]); omega)))) | (refine Fork.same ?_; first | refine Fork.dec (fun h => ?_) (fun h => ?_) | refine Fork.ndec (fun h => ?_) (fun h => ?_) | refine Fork.mk (fun h => ?_) (fun h => ?_)) | refine MvQ.stay ?_ | refine Owe.mk ?_ ?_)
        refine And.intro rfl (Exists.intro _ (And.intro rfl ?_))
        (repeat' first | (refine Owe.mk ?_ ?_; (· (first | trivial | omega | ((try simp only [R64, true_and, and_true, Int.toNat_natCast, List.length_cons, List.length_nil]); omega)))) | (refine Fork.same ?_; first | refine Fork.dec (fun h => ?_) (fun h => ?_) | refine Fork.ndec (fun h => ?_) (fun h => ?_) | refine Fork.mk (fun h => ?_) (fun h => ?_)) | refine MvQ.stay ?_ | refine Owe.mk ?_ ?_)
        refine Exists.intro _ (Exists.intro _ (Exists.intro _ (And.intro rfl ?_)))
        (repeat' first | (refine Owe.mk ?_ ?_; (· (first | trivial | omega | ((try simp only [R64, true_and, and_true, Int.toNat_natCast, List.length_cons, List.length_nil]); omega)))) | (refine Fork.same ?_; first | refine Fork.dec (fun h => ?_) (fun h => ?_) | refine Fork.ndec (fun h => ?_) (fun h => ?_) | refine Fork.mk (fun h => ?_) (fun h => ?_)) | refine MvQ.stay ?_ | refine Owe.mk ?_ ?_)
        refine again (k + 1) [5, 52] hlt (by omega) ?_
        refine ⟨rfl, ?_, ?_⟩ <;> (repeat' first | exact True.intro | exact VEq.refl _ | exact EEq.same _ | exact CEq.refl _ | exact VEq.int rfl | apply VEq.tru | apply VEq.fls | apply VEq.bool | apply VEq.int | exact VEq.nill rfl | exact VEq.zl rfl | exact VEq.nil | exact VEq.li_1 | exact VEq.li_2 | exact VEq.li_3 | exact VEq.li_4 | exact VEq.lp_1 | exact VEq.lp_2 | exact VEq.lp_3 | exact VEq.lp_4 | exact VEq.lt_1 | exact VEq.lt_2 | exact VEq.lt_3 | apply VEq.ms | apply VEq.sll | apply VEq.aggs | apply EEq.boxs | apply EEq.app1 | apply EEq.app2 | apply EEq.app3 | apply CEq.ms | apply CEq.int | apply CEq.sll | exact CEq.nill rfl | apply And.intro | exact rfl)
        · rw [hs]; simp
        · exact hs
      · (repeat' first | (refine Owe.mk ?_ ?_; (· (first | trivial | omega | ((try simp only [R64, true_and, and_true, Int.toNat_natCast, List.length_cons, List.length_nil]); omega)))) | (refine Fork.same ?_; first | refine Fork.dec (fun h => ?_) (fun h => ?_) | refine Fork.ndec (fun h => ?_) (fun h => ?_) | refine Fork.mk (fun h => ?_) (fun h => ?_)) | refine MvQ.stay ?_ | refine Owe.mk ?_ ?_)
        have : k = L.l.length := by omega
        subst this
        refine RetQ.of (by first | exact .inr rfl | exact .inl rfl) rfl rfl ((Mv.freeze 0 _ rfl rfl (Nat.le_refl _)).trans (Mv.plain (by rfl) ?_)); (repeat' first | exact True.intro | exact VEq.refl _ | exact EEq.same _ | exact CEq.refl _ | exact VEq.int rfl | apply VEq.tru | apply VEq.fls | apply VEq.bool | apply VEq.int | exact VEq.nill rfl | exact VEq.zl rfl | exact VEq.nil | exact VEq.li_1 | exact VEq.li_2 | exact VEq.li_3 | exact VEq.li_4 | exact VEq.lp_1 | exact VEq.lp_2 | exact VEq.lp_3 | exact VEq.lp_4 | exact VEq.lt_1 | exact VEq.lt_2 | exact VEq.lt_3 | apply VEq.ms | apply VEq.sll | apply VEq.aggs | apply EEq.boxs | apply EEq.app1 | apply EEq.app2 | apply EEq.app3 | apply CEq.ms | apply CEq.int | apply CEq.sll | exact CEq.nill rfl | apply And.intro | exact rfl)
        exact h0.symm
  · rw [orE, if_neg h0]
    refine PFD.of (vs := [_, _]) fn68 rfl (by (simp only [cloL, clo, cloC, cloCs, and_self])) ?_
    (repeat' first | (refine Owe.mk ?_ ?_; (· (first | trivial | omega | ((try simp only [R64, true_and, and_true, Int.toNat_natCast, List.length_cons, List.length_nil]); omega)))) | (refine Fork.same ?_; first | refine Fork.dec (fun h => ?_) (fun h => ?_) | refine Fork.ndec (fun h => ?_) (fun h => ?_) | refine Fork.mk (fun h => ?_) (fun h => ?_)) | (refine OpsL.same ?_; first | refine Ops.pc rfl (Fits.eq rfl) c1 rfl ?_ | (refine Ops.pcp rfl (Fits.eq rfl) c1 rfl ?_ ?_; (· (first | trivial | omega | ((try simp only [R64, true_and, and_true, Int.toNat_natCast, List.length_cons, List.length_nil]); omega)))) | refine Ops.pc rfl (Fits.veq (by (repeat' first | exact True.intro | exact VEq.refl _ | exact EEq.same _ | exact CEq.refl _ | exact VEq.int rfl | apply VEq.tru | apply VEq.fls | apply VEq.bool | apply VEq.int | exact VEq.nill rfl | exact VEq.zl rfl | exact VEq.nil | exact VEq.li_1 | exact VEq.li_2 | exact VEq.li_3 | exact VEq.li_4 | exact VEq.lp_1 | exact VEq.lp_2 | exact VEq.lp_3 | exact VEq.lp_4 | exact VEq.lt_1 | exact VEq.lt_2 | exact VEq.lt_3 | apply VEq.ms | apply VEq.sll | apply VEq.aggs | apply EEq.boxs | apply EEq.app1 | apply EEq.app2 | apply EEq.app3 | apply CEq.ms | apply CEq.int | apply CEq.sll | exact CEq.nill rfl | apply And.intro | exact rfl))) c1 rfl ?_ | (refine Ops.pcp rfl (Fits.veq (by (repeat' first | exact True.intro | exact VEq.refl _ | exact EEq.same _ | exact CEq.refl _ | exact VEq.int rfl | apply VEq.tru | apply VEq.fls | apply VEq.bool | apply VEq.int | exact VEq.nill rfl | exact VEq.zl rfl | exact VEq.nil | exact VEq.li_1 | exact VEq.li_2 | exact VEq.li_3 | exact VEq.li_4 | exact VEq.lp_1 | exact VEq.lp_2 | exact VEq.lp_3 | exact VEq.lp_4 | exact VEq.lt_1 | exact VEq.lt_2 | exact VEq.lt_3 | apply VEq.ms | apply VEq.sll | apply VEq.aggs | apply EEq.boxs | apply EEq.app1 | apply EEq.app2 | apply EEq.app3 | apply CEq.ms | apply CEq.int | apply CEq.sll | exact CEq.nill rfl | apply And.intro | exact rfl))) c1 rfl ?_ ?_; (· (first | trivial | omega | ((try simp only [R64, true_and, and_true, Int.toNat_natCast, List.length_cons, List.length_nil]); omega)))) ) | (refine OpsDL.same ?_; first | refine OpsD.pc rfl (Fits.eq rfl) c1 rfl ?_ | (refine OpsD.pcp rfl (Fits.eq rfl) c1 rfl ?_ ?_; (· (first | trivial | omega | ((try simp only [R64, true_and, and_true, Int.toNat_natCast, List.length_cons, List.length_nil]); omega)))) | refine OpsD.pc rfl (Fits.veq (by (repeat' first | exact True.intro | exact VEq.refl _ | exact EEq.same _ | exact CEq.refl _ | exact VEq.int rfl | apply VEq.tru | apply VEq.fls | apply VEq.bool | apply VEq.int | exact VEq.nill rfl | exact VEq.zl rfl | exact VEq.nil | exact VEq.li_1 | exact VEq.li_2 | exact VEq.li_3 | exact VEq.li_4 | exact VEq.lp_1 | exact VEq.lp_2 | exact VEq.lp_3 | exact VEq.lp_4 | exact VEq.lt_1 | exact VEq.lt_2 | exact VEq.lt_3 | apply VEq.ms | apply VEq.sll | apply VEq.aggs | apply EEq.boxs | apply EEq.app1 | apply EEq.app2 | apply EEq.app3 | apply CEq.ms | apply CEq.int | apply CEq.sll | exact CEq.nill rfl | apply And.intro | exact rfl))) c1 rfl ?_ | (refine OpsD.pcp rfl (Fits.veq (by (repeat' first | exact True.intro | exact VEq.refl _ | exact EEq.same _ | exact CEq.refl _ | exact VEq.int rfl | apply VEq.tru | apply VEq.fls | apply VEq.bool | apply VEq.int | exact VEq.nill rfl | exact VEq.zl rfl | exact VEq.nil | exact VEq.li_1 | exact VEq.li_2 | exact VEq.li_3 | exact VEq.li_4 | exact VEq.lp_1 | exact VEq.lp_2 | exact VEq.lp_3 | exact VEq.lp_4 | exact VEq.lt_1 | exact VEq.lt_2 | exact VEq.lt_3 | apply VEq.ms | apply VEq.sll | apply VEq.aggs | apply EEq.boxs | apply EEq.app1 | apply EEq.app2 | apply EEq.app3 | apply CEq.ms | apply CEq.int | apply CEq.sll | exact CEq.nill rfl | apply And.intro | exact rfl))) c1 rfl ?_ ?_; (· (first | trivial | omega | ((try simp only [R64, true_and, and_true, Int.toNat_natCast, List.length_cons, List.length_nil]); omega)))) ) | refine MvQ.stay ?_ | refine Owe.mk ?_ ?_)
    · (refine RetQ.plain (Nat.le_refl _) (by first | exact .inr rfl | exact .inl rfl) rfl (by (simp only [cloL, clo, cloC, cloCs, and_self])) ?_; (repeat' first | exact True.intro | exact VEq.refl _ | exact EEq.same _ | exact CEq.refl _ | exact VEq.int rfl | apply VEq.tru | apply VEq.fls | apply VEq.bool | apply VEq.int | exact VEq.nill rfl | exact VEq.zl rfl | exact VEq.nil | exact VEq.li_1 | exact VEq.li_2 | exact VEq.li_3 | exact VEq.li_4 | exact VEq.lp_1 | exact VEq.lp_2 | exact VEq.lp_3 | exact VEq.lp_4 | exact VEq.lt_1 | exact VEq.lt_2 | exact VEq.lt_3 | apply VEq.ms | apply VEq.sll | apply VEq.aggs | apply EEq.boxs | apply EEq.app1 | apply EEq.app2 | apply EEq.app3 | apply CEq.ms | apply CEq.int | apply CEq.sll | exact CEq.nill rfl | apply And.intro | exact rfl))
    · exact absurd h h0
abbrev nrI (a : Rg) : Int := max (max a.1 (-a.2)) 0
abbrev frI (a : Rg) : Int := max (-a.1) a.2
abbrev sbF (L : Ln) (i : Nat) : Rg := (nrI (plF L i) * nrI (plF L i) + L.pz (i + 1) * L.pz (i + 1), frI (plF L i) * frI (plF L i) + L.pz (i + 1) * L.pz (i + 1))
theorem C69 {x z : Int} {l : List Lk} {b : List Rg} : (l.length ≤ 1000000 ∧ b.length ≤ 1000000) → PFD Try.prog 69 [.agg [int x, int z, trs l], .c (prs b)]
    (.tup [.c (prs (orE (lbE x z l b).2 (accL (sbF ⟨x, z, l, b⟩) l.length))), vi .i64 (lbE x z l b).2]) := fun hl => by
  have c1 := C127 (x := x) (z := z) hl
  by_cases h0 : (lbE x z l b).2 = 0
  · have hL : (Ln.mk x z l b).Ok := lbE_ok h0
    rw [orE, if_pos h0]
    obtain ⟨L, hLe⟩ : ∃ L, L = Ln.mk x z l b := ⟨_, rfl⟩
    rw [← hLe] at hL c1 ⊢
    rw [show l.length = L.l.length by rw [hLe]]
    refine PFD.of (vs := [_, _]) fn69 rfl (by (simp only [cloL, clo, cloC, cloCs, and_self])) ?_
    (repeat' first | (refine Owe.mk ?_ ?_; (· (first | trivial | omega | ((try simp only [R64, true_and, and_true, Int.toNat_natCast, List.length_cons, List.length_nil]); omega)))) | (refine Fork.same ?_; first | refine Fork.dec (fun h => ?_) (fun h => ?_) | refine Fork.ndec (fun h => ?_) (fun h => ?_) | refine Fork.mk (fun h => ?_) (fun h => ?_)) | (refine OpsL.same ?_; first | refine Ops.pc rfl (Fits.eq rfl) c1 rfl ?_ | (refine Ops.pcp rfl (Fits.eq rfl) c1 rfl ?_ ?_; (· (first | trivial | omega | ((try simp only [R64, true_and, and_true, Int.toNat_natCast, List.length_cons, List.length_nil]); omega)))) | refine Ops.pc rfl (Fits.veq (by (repeat' first | exact True.intro | exact VEq.refl _ | exact EEq.same _ | exact CEq.refl _ | exact VEq.int rfl | apply VEq.tru | apply VEq.fls | apply VEq.bool | apply VEq.int | exact VEq.nill rfl | exact VEq.zl rfl | exact VEq.nil | exact VEq.li_1 | exact VEq.li_2 | exact VEq.li_3 | exact VEq.li_4 | exact VEq.lp_1 | exact VEq.lp_2 | exact VEq.lp_3 | exact VEq.lp_4 | exact VEq.lt_1 | exact VEq.lt_2 | exact VEq.lt_3 | apply VEq.ms | apply VEq.sll | apply VEq.aggs | apply EEq.boxs | apply EEq.app1 | apply EEq.app2 | apply EEq.app3 | apply CEq.ms | apply CEq.int | apply CEq.sll | exact CEq.nill rfl | apply And.intro | exact rfl))) c1 rfl ?_ | (refine Ops.pcp rfl (Fits.veq (by (repeat' first | exact True.intro | exact VEq.refl _ | exact EEq.same _ | exact CEq.refl _ | exact VEq.int rfl | apply VEq.tru | apply VEq.fls | apply VEq.bool | apply VEq.int | exact VEq.nill rfl | exact VEq.zl rfl | exact VEq.nil | exact VEq.li_1 | exact VEq.li_2 | exact VEq.li_3 | exact VEq.li_4 | exact VEq.lp_1 | exact VEq.lp_2 | exact VEq.lp_3 | exact VEq.lp_4 | exact VEq.lt_1 | exact VEq.lt_2 | exact VEq.lt_3 | apply VEq.ms | apply VEq.sll | apply VEq.aggs | apply EEq.boxs | apply EEq.app1 | apply EEq.app2 | apply EEq.app3 | apply CEq.ms | apply CEq.int | apply CEq.sll | exact CEq.nill rfl | apply And.intro | exact rfl))) c1 rfl ?_ ?_; (· (first | trivial | omega | ((try simp only [R64, true_and, and_true, Int.toNat_natCast, List.length_cons, List.length_nil]); omega)))) ) | (refine OpsDL.same ?_; first | refine OpsD.pc rfl (Fits.eq rfl) c1 rfl ?_ | (refine OpsD.pcp rfl (Fits.eq rfl) c1 rfl ?_ ?_; (· (first | trivial | omega | ((try simp only [R64, true_and, and_true, Int.toNat_natCast, List.length_cons, List.length_nil]); omega)))) | refine OpsD.pc rfl (Fits.veq (by (repeat' first | exact True.intro | exact VEq.refl _ | exact EEq.same _ | exact CEq.refl _ | exact VEq.int rfl | apply VEq.tru | apply VEq.fls | apply VEq.bool | apply VEq.int | exact VEq.nill rfl | exact VEq.zl rfl | exact VEq.nil | exact VEq.li_1 | exact VEq.li_2 | exact VEq.li_3 | exact VEq.li_4 | exact VEq.lp_1 | exact VEq.lp_2 | exact VEq.lp_3 | exact VEq.lp_4 | exact VEq.lt_1 | exact VEq.lt_2 | exact VEq.lt_3 | apply VEq.ms | apply VEq.sll | apply VEq.aggs | apply EEq.boxs | apply EEq.app1 | apply EEq.app2 | apply EEq.app3 | apply CEq.ms | apply CEq.int | apply CEq.sll | exact CEq.nill rfl | apply And.intro | exact rfl))) c1 rfl ?_ | (refine OpsD.pcp rfl (Fits.veq (by (repeat' first | exact True.intro | exact VEq.refl _ | exact EEq.same _ | exact CEq.refl _ | exact VEq.int rfl | apply VEq.tru | apply VEq.fls | apply VEq.bool | apply VEq.int | exact VEq.nill rfl | exact VEq.zl rfl | exact VEq.nil | exact VEq.li_1 | exact VEq.li_2 | exact VEq.li_3 | exact VEq.li_4 | exact VEq.lp_1 | exact VEq.lp_2 | exact VEq.lp_3 | exact VEq.lp_4 | exact VEq.lt_1 | exact VEq.lt_2 | exact VEq.lt_3 | apply VEq.ms | apply VEq.sll | apply VEq.aggs | apply EEq.boxs | apply EEq.app1 | apply EEq.app2 | apply EEq.app3 | apply CEq.ms | apply CEq.int | apply CEq.sll | exact CEq.nill rfl | apply And.intro | exact rfl))) c1 rfl ?_ ?_; (· (first | trivial | omega | ((try simp only [R64, true_and, and_true, Int.toNat_natCast, List.length_cons, List.length_nil]); omega)))) ) | refine MvQ.stay ?_ | refine Owe.mk ?_ ?_)
    · exact absurd h0 h
    refine Ops.cs rfl rfl (CallS.of fn113 rfl ?_); refine Sat.keep [8, 23] ?_; refine Sat.rf rfl rfl (CallS.of fn141 rfl ?_); (repeat' first | (refine Owe.mk ?_ ?_; (· (first | trivial | omega | ((try simp only [R64, true_and, and_true, Int.toNat_natCast, List.length_cons, List.length_nil]); omega)))) | (refine Fork.same ?_; first | refine Fork.dec (fun h => ?_) (fun h => ?_) | refine Fork.ndec (fun h => ?_) (fun h => ?_) | refine Fork.mk (fun h => ?_) (fun h => ?_)) | refine MvQ.stay ?_ | refine Owe.mk ?_ ?_)
    refine Sat.nilB 2 0 85 2 (fun i => r2 (([] : List Rg).getD i (0, 0))) rfl rfl ?_
    refine Sat.lp (fun k : Nat => ⟨[(24, vi .i64 k), (23, vi .i64 L.l.length), (22, .c (trs L.l)), (3, .c (.bp 5 0)), (1, .c (.bp 3 0)), (0, .c (.yd 4))], [(5, .box [int (L.pl k), int (L.ph k), int (L.pz k), int (L.hh k)]), (4, .lp [(8, .c (.bp 2 0)), (23, .c (.fn 141 [3]))] .ready none (RR Try.prog 65 [24, 25] ra69 rb69)), (3, .box L.v), (2, .box [.ms 6 (accL (sbF L) k).length]), (6, rowv 85 2 r2 (0, 0) (accL (sbF L) k))], 7⟩)
      (fun k => k ≤ L.l.length) (fun k => L.l.length - k) 0 [5, 6] (Nat.zero_le _) ?_ ?_
    · refine ⟨rfl, ?_, ?_⟩ <;> (repeat' first | exact True.intro | exact VEq.refl _ | exact EEq.same _ | exact CEq.refl _ | exact VEq.int rfl | apply VEq.tru | apply VEq.fls | apply VEq.bool | apply VEq.int | exact VEq.nill rfl | exact VEq.zl rfl | exact VEq.nil | exact VEq.li_1 | exact VEq.li_2 | exact VEq.li_3 | exact VEq.li_4 | exact VEq.lp_1 | exact VEq.lp_2 | exact VEq.lp_3 | exact VEq.lp_4 | exact VEq.lt_1 | exact VEq.lt_2 | exact VEq.lt_3 | apply VEq.ms | apply VEq.sll | apply VEq.aggs | apply EEq.boxs | apply EEq.app1 | apply EEq.app2 | apply EEq.app3 | apply CEq.ms | apply CEq.int | apply CEq.sll | exact CEq.nill rfl | apply And.intro | exact rfl)
    · intro k hk
      refine Fork.dec (fun hlt => ?_) (fun hlt => ?_)
      · have hlt : k < L.l.length := by omega
        have hrd := hL.round hlt
        have hn := accL_len (sbF L) k
        have hs := accL_succ (sbF L) k
        have hb := hL.bd (k + 1) (by omega)
        have m1 := mbd (a := nrI (plF L k)) (b := nrI (plF L k)) (A := 20000) (B := 20000) (by simp only [nrI, plF]; omega) (by simp only [nrI, plF]; omega)
        have m2 := mbd (a := frI (plF L k)) (b := frI (plF L k)) (A := 20000) (B := 20000) (by simp only [frI, plF]; omega) (by simp only [frI, plF]; omega)
        have m3 := mbd (a := L.pz (k + 1)) (b := L.pz (k + 1)) (A := 20000) (B := 20000) hb.2.2 hb.2.2
        simp only [nrI, frI, plF, Ln.pl, Ln.ph, Ln.pz, Ln.d, Ln.lo, Ln.hi, Ln.w] at m1 m2 m3
        (repeat' first | (refine Owe.mk ?_ ?_; (· (first | trivial | omega | ((try simp only [R64, true_and, and_true, Int.toNat_natCast, List.length_cons, List.length_nil]); omega)))) | (refine Fork.same ?_; first | refine Fork.dec (fun h => ?_) (fun h => ?_) | refine Fork.ndec (fun h => ?_) (fun h => ?_) | refine Fork.mk (fun h => ?_) (fun h => ?_)) | refine MvQ.stay ?_ | refine Owe.mk ?_ ?_)
        refine Ops.yd rfl rfl rfl rfl rfl ?_
        (repeat' first | (refine Owe.mk ?_ ?_; (· (first | trivial | omega | ((try simp only [R64, true_and, and_true, Int.toNat_natCast, List.length_cons, List.length_nil]); omega)))) | (refine Fork.same ?_; first | refine Fork.dec (fun h => ?_) (fun h => ?_) | refine Fork.ndec (fun h => ?_) (fun h => ?_) | refine Fork.mk (fun h => ?_) (fun h => ?_)) | refine MvQ.stay ?_ | refine Owe.mk ?_ ?_)
        refine And.intro rfl (Exists.intro _ (And.intro rfl ?_))
        (repeat' first | (refine Owe.mk ?_ ?_; (· (first | trivial | omega | ((try simp only [R64, true_and, and_true, Int.toNat_natCast, List.length_cons, List.length_nil]); omega)))) | (refine Fork.same ?_; first | refine Fork.dec (fun h => ?_) (fun h => ?_) | refine Fork.ndec (fun h => ?_) (fun h => ?_) | refine Fork.mk (fun h => ?_) (fun h => ?_)) | refine MvQ.stay ?_ | refine Owe.mk ?_ ?_)
        refine Exists.intro _ (Exists.intro _ (Exists.intro _ (And.intro rfl ?_)))
        (repeat' first | (refine Owe.mk ?_ ?_; (· (first | trivial | omega | ((try simp only [R64, true_and, and_true, Int.toNat_natCast, List.length_cons, List.length_nil]); omega)))) | (refine Fork.same ?_; first | refine Fork.dec (fun h => ?_) (fun h => ?_) | refine Fork.ndec (fun h => ?_) (fun h => ?_) | refine Fork.mk (fun h => ?_) (fun h => ?_)) | refine MvQ.stay ?_ | refine Owe.mk ?_ ?_)
        refine again (k + 1) [5, 70] hlt (by omega) ?_
        refine ⟨rfl, ?_, ?_⟩ <;> (repeat' first | exact True.intro | exact VEq.refl _ | exact EEq.same _ | exact CEq.refl _ | exact VEq.int rfl | apply VEq.tru | apply VEq.fls | apply VEq.bool | apply VEq.int | exact VEq.nill rfl | exact VEq.zl rfl | exact VEq.nil | exact VEq.li_1 | exact VEq.li_2 | exact VEq.li_3 | exact VEq.li_4 | exact VEq.lp_1 | exact VEq.lp_2 | exact VEq.lp_3 | exact VEq.lp_4 | exact VEq.lt_1 | exact VEq.lt_2 | exact VEq.lt_3 | apply VEq.ms | apply VEq.sll | apply VEq.aggs | apply EEq.boxs | apply EEq.app1 | apply EEq.app2 | apply EEq.app3 | apply CEq.ms | apply CEq.int | apply CEq.sll | exact CEq.nill rfl | apply And.intro | exact rfl)
        · rw [hs]; simp
        · exact hs
      · (repeat' first | (refine Owe.mk ?_ ?_; (· (first | trivial | omega | ((try simp only [R64, true_and, and_true, Int.toNat_natCast, List.length_cons, List.length_nil]); omega)))) | (refine Fork.same ?_; first | refine Fork.dec (fun h => ?_) (fun h => ?_) | refine Fork.ndec (fun h => ?_) (fun h => ?_) | refine Fork.mk (fun h => ?_) (fun h => ?_)) | refine MvQ.stay ?_ | refine Owe.mk ?_ ?_)
        have : k = L.l.length := by omega
        subst this
        refine RetQ.of (by first | exact .inr rfl | exact .inl rfl) rfl rfl ((Mv.freeze 0 _ rfl rfl (Nat.le_refl _)).trans (Mv.plain (by rfl) ?_)); (repeat' first | exact True.intro | exact VEq.refl _ | exact EEq.same _ | exact CEq.refl _ | exact VEq.int rfl | apply VEq.tru | apply VEq.fls | apply VEq.bool | apply VEq.int | exact VEq.nill rfl | exact VEq.zl rfl | exact VEq.nil | exact VEq.li_1 | exact VEq.li_2 | exact VEq.li_3 | exact VEq.li_4 | exact VEq.lp_1 | exact VEq.lp_2 | exact VEq.lp_3 | exact VEq.lp_4 | exact VEq.lt_1 | exact VEq.lt_2 | exact VEq.lt_3 | apply VEq.ms | apply VEq.sll | apply VEq.aggs | apply EEq.boxs | apply EEq.app1 | apply EEq.app2 | apply EEq.app3 | apply CEq.ms | apply CEq.int | apply CEq.sll | exact CEq.nill rfl | apply And.intro | exact rfl)
        exact h0.symm
  · rw [orE, if_neg h0]
    refine PFD.of (vs := [_, _]) fn69 rfl (by (simp only [cloL, clo, cloC, cloCs, and_self])) ?_
    (repeat' first | (refine Owe.mk ?_ ?_; (· (first | trivial | omega | ((try simp only [R64, true_and, and_true, Int.toNat_natCast, List.length_cons, List.length_nil]); omega)))) | (refine Fork.same ?_; first | refine Fork.dec (fun h => ?_) (fun h => ?_) | refine Fork.ndec (fun h => ?_) (fun h => ?_) | refine Fork.mk (fun h => ?_) (fun h => ?_)) | (refine OpsL.same ?_; first | refine Ops.pc rfl (Fits.eq rfl) c1 rfl ?_ | (refine Ops.pcp rfl (Fits.eq rfl) c1 rfl ?_ ?_; (· (first | trivial | omega | ((try simp only [R64, true_and, and_true, Int.toNat_natCast, List.length_cons, List.length_nil]); omega)))) | refine Ops.pc rfl (Fits.veq (by (repeat' first | exact True.intro | exact VEq.refl _ | exact EEq.same _ | exact CEq.refl _ | exact VEq.int rfl | apply VEq.tru | apply VEq.fls | apply VEq.bool | apply VEq.int | exact VEq.nill rfl | exact VEq.zl rfl | exact VEq.nil | exact VEq.li_1 | exact VEq.li_2 | exact VEq.li_3 | exact VEq.li_4 | exact VEq.lp_1 | exact VEq.lp_2 | exact VEq.lp_3 | exact VEq.lp_4 | exact VEq.lt_1 | exact VEq.lt_2 | exact VEq.lt_3 | apply VEq.ms | apply VEq.sll | apply VEq.aggs | apply EEq.boxs | apply EEq.app1 | apply EEq.app2 | apply EEq.app3 | apply CEq.ms | apply CEq.int | apply CEq.sll | exact CEq.nill rfl | apply And.intro | exact rfl))) c1 rfl ?_ | (refine Ops.pcp rfl (Fits.veq (by (repeat' first | exact True.intro | exact VEq.refl _ | exact EEq.same _ | exact CEq.refl _ | exact VEq.int rfl | apply VEq.tru | apply VEq.fls | apply VEq.bool | apply VEq.int | exact VEq.nill rfl | exact VEq.zl rfl | exact VEq.nil | exact VEq.li_1 | exact VEq.li_2 | exact VEq.li_3 | exact VEq.li_4 | exact VEq.lp_1 | exact VEq.lp_2 | exact VEq.lp_3 | exact VEq.lp_4 | exact VEq.lt_1 | exact VEq.lt_2 | exact VEq.lt_3 | apply VEq.ms | apply VEq.sll | apply VEq.aggs | apply EEq.boxs | apply EEq.app1 | apply EEq.app2 | apply EEq.app3 | apply CEq.ms | apply CEq.int | apply CEq.sll | exact CEq.nill rfl | apply And.intro | exact rfl))) c1 rfl ?_ ?_; (· (first | trivial | omega | ((try simp only [R64, true_and, and_true, Int.toNat_natCast, List.length_cons, List.length_nil]); omega)))) ) | (refine OpsDL.same ?_; first | refine OpsD.pc rfl (Fits.eq rfl) c1 rfl ?_ | (refine OpsD.pcp rfl (Fits.eq rfl) c1 rfl ?_ ?_; (· (first | trivial | omega | ((try simp only [R64, true_and, and_true, Int.toNat_natCast, List.length_cons, List.length_nil]); omega)))) | refine OpsD.pc rfl (Fits.veq (by (repeat' first | exact True.intro | exact VEq.refl _ | exact EEq.same _ | exact CEq.refl _ | exact VEq.int rfl | apply VEq.tru | apply VEq.fls | apply VEq.bool | apply VEq.int | exact VEq.nill rfl | exact VEq.zl rfl | exact VEq.nil | exact VEq.li_1 | exact VEq.li_2 | exact VEq.li_3 | exact VEq.li_4 | exact VEq.lp_1 | exact VEq.lp_2 | exact VEq.lp_3 | exact VEq.lp_4 | exact VEq.lt_1 | exact VEq.lt_2 | exact VEq.lt_3 | apply VEq.ms | apply VEq.sll | apply VEq.aggs | apply EEq.boxs | apply EEq.app1 | apply EEq.app2 | apply EEq.app3 | apply CEq.ms | apply CEq.int | apply CEq.sll | exact CEq.nill rfl | apply And.intro | exact rfl))) c1 rfl ?_ | (refine OpsD.pcp rfl (Fits.veq (by (repeat' first | exact True.intro | exact VEq.refl _ | exact EEq.same _ | exact CEq.refl _ | exact VEq.int rfl | apply VEq.tru | apply VEq.fls | apply VEq.bool | apply VEq.int | exact VEq.nill rfl | exact VEq.zl rfl | exact VEq.nil | exact VEq.li_1 | exact VEq.li_2 | exact VEq.li_3 | exact VEq.li_4 | exact VEq.lp_1 | exact VEq.lp_2 | exact VEq.lp_3 | exact VEq.lp_4 | exact VEq.lt_1 | exact VEq.lt_2 | exact VEq.lt_3 | apply VEq.ms | apply VEq.sll | apply VEq.aggs | apply EEq.boxs | apply EEq.app1 | apply EEq.app2 | apply EEq.app3 | apply CEq.ms | apply CEq.int | apply CEq.sll | exact CEq.nill rfl | apply And.intro | exact rfl))) c1 rfl ?_ ?_; (· (first | trivial | omega | ((try simp only [R64, true_and, and_true, Int.toNat_natCast, List.length_cons, List.length_nil]); omega)))) ) | refine MvQ.stay ?_ | refine Owe.mk ?_ ?_)
    · (refine RetQ.plain (Nat.le_refl _) (by first | exact .inr rfl | exact .inl rfl) rfl (by (simp only [cloL, clo, cloC, cloCs, and_self])) ?_; (repeat' first | exact True.intro | exact VEq.refl _ | exact EEq.same _ | exact CEq.refl _ | exact VEq.int rfl | apply VEq.tru | apply VEq.fls | apply VEq.bool | apply VEq.int | exact VEq.nill rfl | exact VEq.zl rfl | exact VEq.nil | exact VEq.li_1 | exact VEq.li_2 | exact VEq.li_3 | exact VEq.li_4 | exact VEq.lp_1 | exact VEq.lp_2 | exact VEq.lp_3 | exact VEq.lp_4 | exact VEq.lt_1 | exact VEq.lt_2 | exact VEq.lt_3 | apply VEq.ms | apply VEq.sll | apply VEq.aggs | apply EEq.boxs | apply EEq.app1 | apply EEq.app2 | apply EEq.app3 | apply CEq.ms | apply CEq.int | apply CEq.sll | exact CEq.nill rfl | apply And.intro | exact rfl))
    · exact absurd h h0
theorem C72 {x z : Int} {l : List Lk} {b : List Rg} : (l.length ≤ 1000000 ∧ b.length ≤ 1000000) → PFD Try.prog 72 [.agg [int x, int z, trs l], .c (prs b)] (vi .i64 (boxE l.length b).2) := fun hl => by
  have c1 := C52 (x := x) (z := z) hl
  refine PFD.of (vs := [_]) fn72 rfl (by (simp only [cloL, clo, cloC, cloCs, and_self])) ?_
  (repeat' first | (refine Owe.mk ?_ ?_; (· (first | trivial | omega | ((try simp only [R64, true_and, and_true, Int.toNat_natCast, List.length_cons, List.length_nil]); omega)))) | (refine Fork.same ?_; first | refine Fork.dec (fun h => ?_) (fun h => ?_) | refine Fork.ndec (fun h => ?_) (fun h => ?_) | refine Fork.mk (fun h => ?_) (fun h => ?_)) | (refine OpsL.same ?_; first | refine Ops.pc rfl (Fits.eq rfl) c1 rfl ?_ | (refine Ops.pcp rfl (Fits.eq rfl) c1 rfl ?_ ?_; (· (first | trivial | omega | ((try simp only [R64, true_and, and_true, Int.toNat_natCast, List.length_cons, List.length_nil]); omega)))) | refine Ops.pc rfl (Fits.veq (by (repeat' first | exact True.intro | exact VEq.refl _ | exact EEq.same _ | exact CEq.refl _ | exact VEq.int rfl | apply VEq.tru | apply VEq.fls | apply VEq.bool | apply VEq.int | exact VEq.nill rfl | exact VEq.zl rfl | exact VEq.nil | exact VEq.li_1 | exact VEq.li_2 | exact VEq.li_3 | exact VEq.li_4 | exact VEq.lp_1 | exact VEq.lp_2 | exact VEq.lp_3 | exact VEq.lp_4 | exact VEq.lt_1 | exact VEq.lt_2 | exact VEq.lt_3 | apply VEq.ms | apply VEq.sll | apply VEq.aggs | apply EEq.boxs | apply EEq.app1 | apply EEq.app2 | apply EEq.app3 | apply CEq.ms | apply CEq.int | apply CEq.sll | exact CEq.nill rfl | apply And.intro | exact rfl))) c1 rfl ?_ | (refine Ops.pcp rfl (Fits.veq (by (repeat' first | exact True.intro | exact VEq.refl _ | exact EEq.same _ | exact CEq.refl _ | exact VEq.int rfl | apply VEq.tru | apply VEq.fls | apply VEq.bool | apply VEq.int | exact VEq.nill rfl | exact VEq.zl rfl | exact VEq.nil | exact VEq.li_1 | exact VEq.li_2 | exact VEq.li_3 | exact VEq.li_4 | exact VEq.lp_1 | exact VEq.lp_2 | exact VEq.lp_3 | exact VEq.lp_4 | exact VEq.lt_1 | exact VEq.lt_2 | exact VEq.lt_3 | apply VEq.ms | apply VEq.sll | apply VEq.aggs | apply EEq.boxs | apply EEq.app1 | apply EEq.app2 | apply EEq.app3 | apply CEq.ms | apply CEq.int | apply CEq.sll | exact CEq.nill rfl | apply And.intro | exact rfl))) c1 rfl ?_ ?_; (· (first | trivial | omega | ((try simp only [R64, true_and, and_true, Int.toNat_natCast, List.length_cons, List.length_nil]); omega)))) ) | (refine OpsDL.same ?_; first | refine OpsD.pc rfl (Fits.eq rfl) c1 rfl ?_ | (refine OpsD.pcp rfl (Fits.eq rfl) c1 rfl ?_ ?_; (· (first | trivial | omega | ((try simp only [R64, true_and, and_true, Int.toNat_natCast, List.length_cons, List.length_nil]); omega)))) | refine OpsD.pc rfl (Fits.veq (by (repeat' first | exact True.intro | exact VEq.refl _ | exact EEq.same _ | exact CEq.refl _ | exact VEq.int rfl | apply VEq.tru | apply VEq.fls | apply VEq.bool | apply VEq.int | exact VEq.nill rfl | exact VEq.zl rfl | exact VEq.nil | exact VEq.li_1 | exact VEq.li_2 | exact VEq.li_3 | exact VEq.li_4 | exact VEq.lp_1 | exact VEq.lp_2 | exact VEq.lp_3 | exact VEq.lp_4 | exact VEq.lt_1 | exact VEq.lt_2 | exact VEq.lt_3 | apply VEq.ms | apply VEq.sll | apply VEq.aggs | apply EEq.boxs | apply EEq.app1 | apply EEq.app2 | apply EEq.app3 | apply CEq.ms | apply CEq.int | apply CEq.sll | exact CEq.nill rfl | apply And.intro | exact rfl))) c1 rfl ?_ | (refine OpsD.pcp rfl (Fits.veq (by (repeat' first | exact True.intro | exact VEq.refl _ | exact EEq.same _ | exact CEq.refl _ | exact VEq.int rfl | apply VEq.tru | apply VEq.fls | apply VEq.bool | apply VEq.int | exact VEq.nill rfl | exact VEq.zl rfl | exact VEq.nil | exact VEq.li_1 | exact VEq.li_2 | exact VEq.li_3 | exact VEq.li_4 | exact VEq.lp_1 | exact VEq.lp_2 | exact VEq.lp_3 | exact VEq.lp_4 | exact VEq.lt_1 | exact VEq.lt_2 | exact VEq.lt_3 | apply VEq.ms | apply VEq.sll | apply VEq.aggs | apply EEq.boxs | apply EEq.app1 | apply EEq.app2 | apply EEq.app3 | apply CEq.ms | apply CEq.int | apply CEq.sll | exact CEq.nill rfl | apply And.intro | exact rfl))) c1 rfl ?_ ?_; (· (first | trivial | omega | ((try simp only [R64, true_and, and_true, Int.toNat_natCast, List.length_cons, List.length_nil]); omega)))) ) | refine MvQ.stay ?_ | refine Owe.mk ?_ ?_)
  (refine RetQ.plain (Nat.le_refl _) (by first | exact .inr rfl | exact .inl rfl) rfl (by (simp only [cloL, clo, cloC, cloCs, and_self])) ?_; (repeat' first | exact True.intro | exact VEq.refl _ | exact EEq.same _ | exact CEq.refl _ | exact VEq.int rfl | apply VEq.tru | apply VEq.fls | apply VEq.bool | apply VEq.int | exact VEq.nill rfl | exact VEq.zl rfl | exact VEq.nil | exact VEq.li_1 | exact VEq.li_2 | exact VEq.li_3 | exact VEq.li_4 | exact VEq.lp_1 | exact VEq.lp_2 | exact VEq.lp_3 | exact VEq.lp_4 | exact VEq.lt_1 | exact VEq.lt_2 | exact VEq.lt_3 | apply VEq.ms | apply VEq.sll | apply VEq.aggs | apply EEq.boxs | apply EEq.app1 | apply EEq.app2 | apply EEq.app3 | apply CEq.ms | apply CEq.int | apply CEq.sll | exact CEq.nill rfl | apply And.intro | exact rfl))
theorem Ln.Ok.le {L : Ln} (h : L.Ok) : ∀ k : Nat, k ≤ L.l.length → L.pl k ≤ L.ph k
  | 0, _ => Int.le_refl _
  | k + 1, hk => by
    have := h.le k (by omega)
    have h1 := (h.lk (k := k) (by omega)).2.2
    have h2 := (h.rg (k := k) (by omega)).2.2
    have := Int.mul_le_mul_of_nonneg_left h2 h1.1
    show L.pl k + L.d k * L.lo k ≤ L.ph k + L.d k * L.hi k
    omega
theorem nr_sq {p : Rg} (h : p.1 ≤ p.2) : nrI p * nrI p = if p.2 < 0 then p.2 * p.2 else if 0 < p.1 then p.1 * p.1 else 0 := by
  split
  · rw [show nrI p = -p.2 by simp only [nrI]; omega, Int.neg_mul_neg]
  · split
    · rw [show nrI p = p.1 by simp only [nrI]; omega]
    · rw [show nrI p = 0 by simp only [nrI]; omega]; rfl
end Go.Pw

set_option linter.unusedVariables false
set_option maxRecDepth 100000
namespace Go.Pw
open Go Go.Proofs
end Go.Pw

set_option linter.unusedSimpArgs false
set_option linter.unusedVariables false
namespace Go.Pw
open Go Go.Proofs
abbrev w64 (n : Int) : Prop := -9223372036854775808 ≤ n ∧ n ≤ 9223372036854775807
end Go.Pw

set_option linter.unusedSimpArgs false
set_option linter.unusedVariables false
namespace Go.Pw
open Go Go.Proofs
theorem C67w {n b : Int} : (w64 n ∧ 0 < b ∧ Md b) → PFD Try.prog 67 [vi .i64 n, vi .i64 b] (vi .i64 (n % b)) := fun ⟨hn, hb, hb'⟩ => by
  have h5 := tmod_bd (n := n) hb
  simp only [w64] at hn
  refine PFD.of (vs := [_]) fn67 rfl (by (simp only [cloL, clo, cloC, cloCs, and_self])) ?_
  (repeat' first | (refine Owe.mk ?_ ?_; (· (first | trivial | omega | ((try simp only [R64, true_and, and_true, Int.toNat_natCast, List.length_cons, List.length_nil]); omega)))) | (refine Fork.same ?_; first | refine Fork.dec (fun h => ?_) (fun h => ?_) | refine Fork.ndec (fun h => ?_) (fun h => ?_) | refine Fork.mk (fun h => ?_) (fun h => ?_)) | refine MvQ.stay ?_ | refine Owe.mk ?_ ?_)
  · (refine RetQ.plain (Nat.le_refl _) (by first | exact .inr rfl | exact .inl rfl) rfl (by (simp only [cloL, clo, cloC, cloCs, and_self])) ?_; (repeat' first | exact True.intro | exact VEq.refl _ | exact EEq.same _ | exact CEq.refl _ | exact VEq.int rfl | apply VEq.tru | apply VEq.fls | apply VEq.bool | apply VEq.int | exact VEq.nill rfl | exact VEq.zl rfl | exact VEq.nil | exact VEq.li_1 | exact VEq.li_2 | exact VEq.li_3 | exact VEq.li_4 | exact VEq.lp_1 | exact VEq.lp_2 | exact VEq.lp_3 | exact VEq.lp_4 | exact VEq.lt_1 | exact VEq.lt_2 | exact VEq.lt_3 | apply VEq.ms | apply VEq.sll | apply VEq.aggs | apply EEq.boxs | apply EEq.app1 | apply EEq.app2 | apply EEq.app3 | apply CEq.ms | apply CEq.int | apply CEq.sll | exact CEq.nill rfl | apply And.intro | exact rfl)); rw [← mod_eq hb, if_pos h]
  · (refine RetQ.plain (Nat.le_refl _) (by first | exact .inr rfl | exact .inl rfl) rfl (by (simp only [cloL, clo, cloC, cloCs, and_self])) ?_; (repeat' first | exact True.intro | exact VEq.refl _ | exact EEq.same _ | exact CEq.refl _ | exact VEq.int rfl | apply VEq.tru | apply VEq.fls | apply VEq.bool | apply VEq.int | exact VEq.nill rfl | exact VEq.zl rfl | exact VEq.nil | exact VEq.li_1 | exact VEq.li_2 | exact VEq.li_3 | exact VEq.li_4 | exact VEq.lp_1 | exact VEq.lp_2 | exact VEq.lp_3 | exact VEq.lp_4 | exact VEq.lt_1 | exact VEq.lt_2 | exact VEq.lt_3 | apply VEq.ms | apply VEq.sll | apply VEq.aggs | apply EEq.boxs | apply EEq.app1 | apply EEq.app2 | apply EEq.app3 | apply CEq.ms | apply CEq.int | apply CEq.sll | exact CEq.nill rfl | apply And.intro | exact rfl)); rw [← mod_eq hb, if_neg h]
section
variable {x z : Int} {l : List Lk} {b b' : List Rg}
theorem pl_mono (hd : ∀ k, k < l.length → 0 ≤ (l.getD k (0, 0, 0)).2.2) (h : ∀ k, k < l.length → (b.getD k (0, 0)).1 ≤ (b'.getD k (0, 0)).1) : ∀ k, k ≤ l.length → (Ln.mk x z l b).pl k ≤ (Ln.mk x z l b').pl k
  | 0, _ => Int.le_refl _
  | k + 1, hk => by
    have := pl_mono hd h k (by omega)
    have := Int.mul_le_mul_of_nonneg_left (h k (by omega)) (hd k (by omega))
    show (Ln.mk x z l b).pl k + (l.getD k (0, 0, 0)).2.2 * (b.getD k (0, 0)).1 ≤ (Ln.mk x z l b').pl k + (l.getD k (0, 0, 0)).2.2 * (b'.getD k (0, 0)).1
    omega
theorem ph_mono (hd : ∀ k, k < l.length → 0 ≤ (l.getD k (0, 0, 0)).2.2) (h : ∀ k, k < l.length → (b.getD k (0, 0)).2 ≤ (b'.getD k (0, 0)).2) : ∀ k, k ≤ l.length → (Ln.mk x z l b).ph k ≤ (Ln.mk x z l b').ph k
  | 0, _ => Int.le_refl _
  | k + 1, hk => by
    have := ph_mono hd h k (by omega)
    have := Int.mul_le_mul_of_nonneg_left (h k (by omega)) (hd k (by omega))
    show (Ln.mk x z l b).ph k + (l.getD k (0, 0, 0)).2.2 * (b.getD k (0, 0)).2 ≤ (Ln.mk x z l b').ph k + (l.getD k (0, 0, 0)).2.2 * (b'.getD k (0, 0)).2
    omega
end
theorem sumI_le {f g : Nat → Int} : ∀ n : Nat, (∀ k, k < n → f k ≤ g k) → sumI f n ≤ sumI g n
  | 0, _ => Int.le_refl _
  | n + 1, h => by
    have h1 := sumI_le n (fun k hk => h k (by omega))
    have h2 := h n (by omega)
    show sumI f n + f n ≤ sumI g n + g n
    omega
theorem sq_abs {a m : Int} (h1 : -m ≤ a) (h2 : a ≤ m) : a * a ≤ m * m := by
  have h3 : 0 ≤ (m - a) * (m + a) := Int.mul_nonneg (by omega) (by omega)
  have h4 : (m - a) * (m + a) = m * m - a * a := by rw [Int.sub_mul, Int.mul_add, Int.mul_add, Int.mul_comm a m]; omega
  omega
theorem nr_le {p : Rg} {a : Int} (h1 : p.1 ≤ a) (h2 : a ≤ p.2) : nrI p * nrI p ≤ a * a := by
  rw [nr_sq (by omega)]
  split
  · rw [← Int.neg_mul_neg, ← Int.neg_mul_neg a]; exact sq_abs (by omega) (by omega)
  · split
    · exact sq_abs (by omega) (by omega)
    · exact sq_nonneg a
theorem fr_le {p : Rg} {a : Int} (h1 : p.1 ≤ a) (h2 : a ≤ p.2) : a * a ≤ frI p * frI p := sq_abs (by simp only [frI]; omega) (by simp only [frI]; omega)
/-- A longer pull makes no shorter link. -/
theorem lenF_mono {h z x y : Int} (hh : 1 ≤ h ∧ h ≤ 1000) (hz : 0 < z ∧ z ≤ 20000) (hx : -20000 ≤ x ∧ x ≤ 20000) (hy : -20000 ≤ y ∧ y ≤ 20000) (hxy : x * x ≤ y * y) : (lenF h z x).2 ≤ (lenF h z y).2 := by
  obtain ⟨_, _, b3, b4, b5, _, _, b8⟩ := len_bd hh hz hx
  obtain ⟨_, _, _, c4, c5, _, _, c8⟩ := len_bd hh hz hy
  have hs : sqF h z x ≤ sqF h z y := Int.mul_le_mul_of_nonneg_left (by omega) (sq_nonneg h)
  unfold lenF
  simp only [lnF] at *
  generalize sqF h z x = s at *
  generalize sqF h z y = t at *
  rw [Int.tdiv_eq_ediv_of_nonneg (by omega)] at *
  rw [Int.tdiv_eq_ediv_of_nonneg (by omega)] at *
  have hd : s / (z * z) ≤ t / (z * z) := Int.ediv_le_ediv b3.1 hs
  obtain ⟨q1, q2, q3⟩ := isq_spec (n := s / (z * z)) (by omega)
  obtain ⟨r1, r2, r3⟩ := isq_spec (n := t / (z * z)) (by omega)
  have e1 : s / (z * z) * (z * z) ≤ s := Int.ediv_mul_le _ (by omega)
  have e2 : t / (z * z) * (z * z) ≤ t := Int.ediv_mul_le _ (by omega)
  generalize isq (s / (z * z)) = p at *
  generalize isq (t / (z * z)) = q at *
  have hpq : p ≤ q := by
    rcases Int.lt_or_le q p with h1 | h1
    · have := Int.mul_le_mul (show q + 1 ≤ p by omega) (show q + 1 ≤ p by omega) (by omega) q1; omega
    · exact h1
  rcases Int.lt_or_eq_of_le hpq with h1 | rfl
  · split <;> split <;> omega
  · have e3 := Int.mul_le_mul_of_nonneg_right q2 (show 0 ≤ z * z by omega)
    split
    · split <;> omega
    · rename_i h2
      rw [if_neg (by omega)]
      omega
theorem lenF_le {h z x : Int} : (lenF h z x).1 ≤ (lenF h z x).2 := by
  unfold lenF; simp only; split <;> omega
end Go.Pw

set_option linter.unusedSimpArgs false
set_option linter.unusedVariables false
namespace Go.Pw
open Go Go.Proofs
theorem cur_ok {n : Nat} {c : List Int} (h1 : c.length = n) (h2 : ∀ i, i < n → curOk (c.getD i 0)) : curE n c = 0 := by
  rw [curE, if_pos h1, eachE_ok]
  intro a ha
  obtain ⟨i, hi, rfl⟩ := List.getElem_of_mem ha
  have := h2 i (by omega)
  rw [List.getD_eq_getElem?_getD, List.getElem?_eq_getElem hi] at this
  rw [curErr, unl, unb_ok (by decide), decide_eq_true_eq]
  exact this
theorem box_ok {n : Nat} {b : List Rg} (h1 : b.length = n) (h2 : ∀ i, i < n → curOk (b.getD i (0, 0)).1 ∧ curOk (b.getD i (0, 0)).2 ∧ (b.getD i (0, 0)).1 ≤ (b.getD i (0, 0)).2) : (boxE n b).2 = 0 := by
  rw [boxE, if_pos h1, eachE_ok]
  intro a ha
  obtain ⟨i, hi, rfl⟩ := List.getElem_of_mem ha
  have := h2 i (by omega)
  rw [List.getD_eq_getElem?_getD, List.getElem?_eq_getElem hi] at this
  rw [rgErr, fstE_ok]
  simp only [List.mem_cons, List.not_mem_nil, or_false, forall_eq_or_imp, forall_eq, unl, unb_ok (show (2 : Int) ≠ 0 by decide), unb_ok (show (9 : Int) ≠ 0 by decide), decide_eq_true_eq]
  exact ⟨⟨this.1, this.2.1⟩, this.2.2⟩
theorem lb_ok {x z : Int} {l : List Lk} {b : List Rg} (h0 : LnOk x z l) (h : (boxE l.length b).2 = 0) : (lbE x z l b).2 = 0 := by
  unfold lbE; rw [if_pos (lineE_ok.2 h0)]; exact h
theorem opn_of {x z : Int} {l : List Lk} {c : List Int} (h0 : LnOk x z l) (h : curE l.length c = 0) : (opn x z l c).2 = 0 ∧ (opn x z l c).1 = opL x z l c ∧ (opL x z l c).Ok := by
  have h1 : (opn x z l c).2 = 0 := by rw [opn_err, if_pos (lineE_ok.2 h0)]; exact h
  have h2 := opn_ok h1
  refine ⟨h1, h2.1, ?_⟩
  have := h2.2
  rw [h2.1] at this
  exact this
/-- Currents in a box within a box. -/
structure Within3 (l : List Lk) (b inn : List Rg) (c : List Int) : Prop where
  lc : c.length = l.length
  li : inn.length = l.length
  h : ∀ k, k < l.length → (b.getD k (0, 0)).1 ≤ (inn.getD k (0, 0)).1 ∧ (inn.getD k (0, 0)).1 ≤ c.getD k 0 ∧ c.getD k 0 ≤ (inn.getD k (0, 0)).2 ∧ (inn.getD k (0, 0)).2 ≤ (b.getD k (0, 0)).2
section
variable {x z : Int} {l : List Lk} {b inn : List Rg} {c : List Int}
theorem Within3.errs (h : Within3 l b inn c) (hL : (Ln.mk x z l b).Ok) : curE l.length c = 0 ∧ (boxE l.length inn).2 = 0 := by
  have hr : ∀ k, k < l.length → (-50 ≤ (b.getD k (0, 0)).1 ∧ (b.getD k (0, 0)).1 ≤ 50) ∧ (-50 ≤ (b.getD k (0, 0)).2 ∧ (b.getD k (0, 0)).2 ≤ 50) ∧ (b.getD k (0, 0)).1 ≤ (b.getD k (0, 0)).2 := fun k hk => hL.rg hk
  exact ⟨cur_ok h.lc fun i hi => by have := h.h i hi; have := hr i hi; simp only [curOk]; omega,
    box_ok h.li fun i hi => by have := h.h i hi; have := hr i hi; simp only [curOk]; omega⟩
theorem Within3.ord (h : Within3 l b inn c) (hL : (Ln.mk x z l b).Ok) {k : Nat} (hk : k ≤ l.length) :
    (Ln.mk x z l b).pl k ≤ (Ln.mk x z l inn).pl k ∧ (Ln.mk x z l inn).pl k ≤ (opL x z l c).pl k ∧ (opL x z l c).pl k ≤ (Ln.mk x z l inn).ph k ∧ (Ln.mk x z l inn).ph k ≤ (Ln.mk x z l b).ph k := by
  have hd : ∀ k, k < l.length → 0 ≤ (l.getD k (0, 0, 0)).2.2 := fun k hk => (hL.lk hk).2.2.1
  have e : ∀ k, k < l.length → ((c.map dup).getD k (0, 0)) = (c.getD k 0, c.getD k 0) := fun k hk => dup_get (by rw [h.lc]; exact hk)
  refine ⟨pl_mono hd (fun k hk => (h.h k hk).1) k hk, pl_mono hd (fun k hk => by rw [e k hk]; exact (h.h k hk).2.1) k hk, ?_, ph_mono hd (fun k hk => (h.h k hk).2.2.2) k hk⟩
  rw [← opL_ph h.lc k hk]
  exact ph_mono hd (fun k hk => by rw [e k hk]; exact (h.h k hk).2.2.1) k hk
/-- Each pull and each square lies in its range. -/
theorem Within3.each (h : Within3 l b inn c) (hL : (Ln.mk x z l b).Ok) {k : Nat} (hk : k < l.length) :
    ((plF ⟨x, z, l, inn⟩ k).1 ≤ (tnF (opL x z l c) k).1 ∧ (tnF (opL x z l c) k).1 ≤ (plF ⟨x, z, l, inn⟩ k).2) ∧ (plF ⟨x, z, l, b⟩ k).1 ≤ (plF ⟨x, z, l, inn⟩ k).1 ∧ (plF ⟨x, z, l, inn⟩ k).2 ≤ (plF ⟨x, z, l, b⟩ k).2 ∧
    ((sbF ⟨x, z, l, b⟩ k).1 ≤ sqI (tnF (opL x z l c) k) ∧ sqI (tnF (opL x z l c) k) ≤ (sbF ⟨x, z, l, b⟩ k).2) ∧ plF (opL x z l c) k = ((tnF (opL x z l c) k).1, (tnF (opL x z l c) k).1) := by
  obtain ⟨h1, h2, h3, h4⟩ := h.ord hL (show k + 1 ≤ l.length by omega)
  have e : (Ln.mk x z l b).pz (k + 1) = (opL x z l c).pz (k + 1) := (opL_pz _).trans (opL_pz _).symm
  have n1 := nr_le (p := plF ⟨x, z, l, b⟩ k) (a := (opL x z l c).pl (k + 1)) (by simp only [plF]; omega) (by simp only [plF]; omega)
  have n2 := fr_le (p := plF ⟨x, z, l, b⟩ k) (a := (opL x z l c).pl (k + 1)) (by simp only [plF]; omega) (by simp only [plF]; omega)
  refine ⟨⟨h2, h3⟩, h1, h4, ⟨?_, ?_⟩, ?_⟩
  · show nrI _ * nrI _ + _ * _ ≤ (opL x z l c).pl (k + 1) * (opL x z l c).pl (k + 1) + (opL x z l c).pz (k + 1) * (opL x z l c).pz (k + 1)
    rw [e]; omega
  · show (opL x z l c).pl (k + 1) * (opL x z l c).pl (k + 1) + (opL x z l c).pz (k + 1) * (opL x z l c).pz (k + 1) ≤ frI _ * frI _ + _ * _
    rw [e]; omega
  · show ((opL x z l c).pl (k + 1), (opL x z l c).ph (k + 1)) = ((opL x z l c).pl (k + 1), (opL x z l c).pl (k + 1))
    rw [opL_ph h.lc (k + 1) (by omega)]
theorem ceil_mono {a b c : Int} (hc : 0 < c) (h : a ≤ b) : ceilI a c ≤ ceilI b c := by
  have := Int.ediv_le_ediv hc (show -b ≤ -a by omega)
  simp only [ceilI]; omega
/-- The laybacks and the lengths. -/
theorem Within3.all (h : Within3 l b inn c) (hT : (Ln.mk x z l b).Tight) :
    (laybk ⟨x, z, l, b⟩).1 ≤ (laybk ⟨x, z, l, inn⟩).1 ∧ (laybk ⟨x, z, l, inn⟩).2 ≤ (laybk ⟨x, z, l, b⟩).2 ∧ (laybk ⟨x, z, l, inn⟩).1 ≤ (laybk (opL x z l c)).1 ∧ (laybk (opL x z l c)).2 ≤ (laybk ⟨x, z, l, inn⟩).2 ∧
    (lenL lenF (opL x z l c)).2 ≤ sumI (enF lenF ⟨x, z, l, b⟩) l.length ∧ (lenL lenF (opL x z l c)).1 ≤ (lenL lenF (opL x z l c)).2 := by
  have hL := hT.toOk
  have hh : ∀ k, k < l.length → 1 ≤ (l.getD k (0, 0, 0)).1 ∧ (l.getD k (0, 0, 0)).1 ≤ 1000 := fun k hk => (hL.lk hk).1
  have e1 : ∀ k, (Ln.mk x z l inn).pz k = (Ln.mk x z l b).pz k := fun k => (opL_pz k).trans (opL_pz k).symm
  have e2 : ∀ k, (opL x z l c).pz k = (Ln.mk x z l b).pz k := fun k => (opL_pz k).trans (opL_pz k).symm
  have hz : ∀ k, k < l.length → 0 < (Ln.mk x z l b).pz (k + 1) ∧ (Ln.mk x z l b).pz (k + 1) ≤ 20000 := fun k hk => hT.z hk
  have ho := fun k (hk : k < l.length) => h.ord hL (k := k + 1) (by omega)
  have hbd : ∀ k, k < l.length → _ := fun k hk => hL.bd (k + 1) hk
  refine ⟨sumI_le _ fun k hk => ?_, sumI_le _ fun k hk => ?_, sumI_le _ fun k hk => ?_, sumI_le _ fun k hk => ?_, sumI_le _ fun k hk => ?_, sumI_le _ fun k hk => lenF_le⟩
  · show (l.getD k (0, 0, 0)).1 * _ / _ ≤ (l.getD k (0, 0, 0)).1 * _ / _
    rw [e1]
    exact Int.ediv_le_ediv (hz k hk).1 (Int.mul_le_mul_of_nonneg_left (ho k hk).1 (by have := hh k hk; omega))
  · show ceilI ((l.getD k (0, 0, 0)).1 * _) _ ≤ ceilI ((l.getD k (0, 0, 0)).1 * _) _
    rw [e1]
    exact ceil_mono (hz k hk).1 (Int.mul_le_mul_of_nonneg_left (ho k hk).2.2.2 (by have := hh k hk; omega))
  · show (l.getD k (0, 0, 0)).1 * _ / _ ≤ (l.getD k (0, 0, 0)).1 * _ / _
    rw [e1, e2]
    exact Int.ediv_le_ediv (hz k hk).1 (Int.mul_le_mul_of_nonneg_left (ho k hk).2.1 (by have := hh k hk; omega))
  · show ceilI ((l.getD k (0, 0, 0)).1 * (opL x z l c).ph (k + 1)) _ ≤ ceilI ((l.getD k (0, 0, 0)).1 * _) _
    rw [e1, e2, opL_ph h.lc (k + 1) hk]
    exact ceil_mono (hz k hk).1 (Int.mul_le_mul_of_nonneg_left (ho k hk).2.2.1 (by have := hh k hk; omega))
  · show (lenF (l.getD k (0, 0, 0)).1 ((opL x z l c).pz (k + 1)) ((opL x z l c).pl (k + 1))).2 ≤ (lenF (l.getD k (0, 0, 0)).1 ((Ln.mk x z l b).pz (k + 1)) (max (-(Ln.mk x z l b).pl (k + 1)) ((Ln.mk x z l b).ph (k + 1)))).2
    rw [e2]
    have h1 := ho k hk
    have h2 := hbd k hk
    exact lenF_mono (hh k hk) (hz k hk) (by omega) (by omega) (sq_abs (by omega) (by omega))
end
end Go.Pw

set_option linter.unusedSimpArgs false
set_option linter.unusedVariables false
namespace Go.Pw
open Go Go.Proofs
theorem w64_j {n : Int} (h : IntKind.has .i64 n = true) : w64 n := by
  simp only [IntKind.has, IntKind.min, IntKind.max, IntKind.signed, IntKind.bits, Bool.and_eq_true, decide_eq_true_eq] at h
  simp at h
  exact ⟨by omega, by omega⟩
theorem w64s_of {l : List Int} (h : ∀ a ∈ l, IntKind.has .i64 a = true) : ∀ i, i < l.length → w64 (l.getD i 0) := fun _ hi => w64_j (h _ (getD_mem 0 hi))
/-- By how much each current is above the least one. -/
def kfI (ps : List Int) (b : List Rg) (i : Nat) : Int := if 0 < ps.length then ps.getD ((i : Int).tmod ps.length).toNat 0 % ((b.getD i (0, 0)).2 - (b.getD i (0, 0)).1 + 1) else 0
abbrev cuF (ps : List Int) (b : List Rg) (i : Nat) : Int := (b.getD i (0, 0)).1 + kfI ps b i
abbrev inF (ps : List Int) (b : List Rg) (i : Nat) : Rg := (cuF ps b i - (kfI ps b i).tdiv 2, cuF ps b i)
abbrev sgF (ps : List Int) (b : List Rg) (i : Nat) : Rg := (cuF ps b i, cuF ps b i)
theorem kfI_bd {ps : List Int} {b : List Rg} {i : Nat} (h : (b.getD i (0, 0)).1 ≤ (b.getD i (0, 0)).2) : 0 ≤ kfI ps b i ∧ kfI ps b i ≤ (b.getD i (0, 0)).2 - (b.getD i (0, 0)).1 := by
  unfold kfI
  split
  · have h1 := Int.emod_nonneg (ps.getD ((i : Int).tmod ps.length).toNat 0) (show (b.getD i (0, 0)).2 - (b.getD i (0, 0)).1 + 1 ≠ 0 by omega)
    have h2 := Int.emod_lt_of_pos (ps.getD ((i : Int).tmod ps.length).toNat 0) (show 0 < (b.getD i (0, 0)).2 - (b.getD i (0, 0)).1 + 1 by omega)
    omega
  · omega
theorem within_of {x z : Int} {l : List Lk} {ps : List Int} {b : List Rg} (hL : (Ln.mk x z l b).Ok) : Within3 l b (accL (inF ps b) b.length) (accL (cuF ps b) b.length) := by
  have hb : b.length = l.length := hL.b
  refine ⟨by rw [accL_len]; exact hb, by rw [accL_len]; exact hb, fun k hk => ?_⟩
  have h1 : (b.getD k (0, 0)).1 ≤ (b.getD k (0, 0)).2 := (hL.rg hk).2.2
  have h2 := kfI_bd (ps := ps) h1
  rw [accL_get _ (by omega), accL_get _ (by omega)]
  simp only [inF, cuF]
  rw [Int.tdiv_eq_ediv_of_nonneg h2.1]
  omega
theorem single_eq {ps : List Int} {b : List Rg} {n : Nat} : accL (sgF ps b) n = (accL (cuF ps b) n).map dup := by
  simp only [accL, List.map_map]; rfl
set_option maxHeartbeats 8000000 in
theorem C11 {x z : Int} {l : List Lk} {b : List Rg} {ps : List Int} (hw : ∀ i, i < ps.length → w64 (ps.getD i 0)) : PFD Try.prog 11 [.agg [int x, int z, trs l], .c (prs b), .c (ints ps)] (vbl true) := by
  by_cases hf : (l.length ≤ 12 ∧ (b.length : Int) ≤ 14) ∧ ps.length ≤ 20
  · have hlc : l.length ≤ 1000000 ∧ b.length ≤ 1000000 := by omega
    have c1 := C35 (x := x) (z := z) (l := l) (by omega)
    have c2 := C72 (x := x) (z := z) (l := l) (b := b) (by omega)
    by_cases h0 : (lineE x z l).2 = 0
    · rw [h0] at c1
      by_cases h1 : (boxE l.length b).2 = 0
      · rw [h1] at c2
        have h01 := lineE_ok.1 h0
        have ho := lb_ok h01 h1
        have hL : (Ln.mk x z l b).Ok := lbE_ok ho
        have hbl : b.length = l.length := hL.b
        have hn : 0 < l.length ∧ l.length ≤ 10 := hL.k.n
        have hW := within_of (ps := ps) hL
        obtain ⟨hc0, hi0⟩ := hW.errs hL
        obtain ⟨ho1, ho2, hO⟩ := opn_of h01 hc0
        have hlbI := lb_ok h01 hi0
        have hlbS : (lbE x z l (accL (sgF ps b) b.length)).2 = 0 := by
          refine lb_ok h01 (box_ok (by rw [accL_len]; exact hbl) fun i hi => ?_)
          have := hO.rg hi
          rw [single_eq]; exact this
        have hrg : ∀ i, i < l.length → (-50 ≤ (b.getD i (0, 0)).1 ∧ (b.getD i (0, 0)).1 ≤ 50) ∧ (-50 ≤ (b.getD i (0, 0)).2 ∧ (b.getD i (0, 0)).2 ≤ 50) ∧ (b.getD i (0, 0)).1 ≤ (b.getD i (0, 0)).2 := fun i hi => hL.rg hi
        refine PFD.of (vs := [_]) fn11 rfl (by (simp only [cloL, clo, cloC, cloCs, and_self])) ?_
        (repeat' first | (refine Owe.mk ?_ ?_; (· (first | trivial | omega | ((try simp only [R64, true_and, and_true, Int.toNat_natCast, List.length_cons, List.length_nil]); omega)))) | (refine Fork.same ?_; first | (refine Fork.yes ?_ ?_; (· first | exact rfl | (refine decide_eq_true ?_; omega) | (refine nd_t ?_; omega) | (simp only [decide_true, Bool.and_self, Bool.not_false]))) | (refine Fork.no ?_ ?_; (· first | exact rfl | (refine decide_eq_false ?_; omega) | (refine nd_f ?_; omega) | (simp only [decide_true, Bool.and_self, Bool.not_true]))) | refine Fork.dec (fun h => ?_) (fun h => ?_) | refine Fork.ndec (fun h => ?_) (fun h => ?_) | refine Fork.mk (fun h => ?_) (fun h => ?_)) | (refine OpsL.same ?_; first | refine Ops.pc rfl (Fits.eq rfl) C15 rfl ?_ | (refine Ops.pcp rfl (Fits.eq rfl) C15 rfl ?_ ?_; (· (first | trivial | omega | ((try simp only [R64, true_and, and_true, Int.toNat_natCast, List.length_cons, List.length_nil]); omega)))) | refine Ops.pc rfl (Fits.eq rfl) C28 rfl ?_ | (refine Ops.pcp rfl (Fits.eq rfl) C28 rfl ?_ ?_; (· (first | trivial | omega | ((try simp only [R64, true_and, and_true, Int.toNat_natCast, List.length_cons, List.length_nil]); omega)))) | refine Ops.pc rfl (Fits.eq rfl) c1 rfl ?_ | (refine Ops.pcp rfl (Fits.eq rfl) c1 rfl ?_ ?_; (· (first | trivial | omega | ((try simp only [R64, true_and, and_true, Int.toNat_natCast, List.length_cons, List.length_nil]); omega)))) | refine Ops.pc rfl (Fits.eq rfl) c2 rfl ?_ | (refine Ops.pcp rfl (Fits.eq rfl) c2 rfl ?_ ?_; (· (first | trivial | omega | ((try simp only [R64, true_and, and_true, Int.toNat_natCast, List.length_cons, List.length_nil]); omega)))) ) | (refine OpsDL.same ?_; first | refine OpsD.pc rfl (Fits.eq rfl) C15 rfl ?_ | (refine OpsD.pcp rfl (Fits.eq rfl) C15 rfl ?_ ?_; (· (first | trivial | omega | ((try simp only [R64, true_and, and_true, Int.toNat_natCast, List.length_cons, List.length_nil]); omega)))) | refine OpsD.pc rfl (Fits.eq rfl) C28 rfl ?_ | (refine OpsD.pcp rfl (Fits.eq rfl) C28 rfl ?_ ?_; (· (first | trivial | omega | ((try simp only [R64, true_and, and_true, Int.toNat_natCast, List.length_cons, List.length_nil]); omega)))) | refine OpsD.pc rfl (Fits.eq rfl) c1 rfl ?_ | (refine OpsD.pcp rfl (Fits.eq rfl) c1 rfl ?_ ?_; (· (first | trivial | omega | ((try simp only [R64, true_and, and_true, Int.toNat_natCast, List.length_cons, List.length_nil]); omega)))) | refine OpsD.pc rfl (Fits.eq rfl) c2 rfl ?_ | (refine OpsD.pcp rfl (Fits.eq rfl) c2 rfl ?_ ?_; (· (first | trivial | omega | ((try simp only [R64, true_and, and_true, Int.toNat_natCast, List.length_cons, List.length_nil]); omega)))) ) | refine MvQ.stay ?_ | refine Owe.mk ?_ ?_)
        refine Sat.nilS 7 3 1 (fun i => r1 (([] : List Int).getD i 0)) rfl ?_
        refine Sat.nilS 8 85 2 (fun i => r2 (([] : List Rg).getD i (0, 0))) rfl ?_
        refine Sat.nilS 9 85 2 (fun i => r2 (([] : List Rg).getD i (0, 0))) rfl ?_
        refine Sat.lp (fun k : Nat => ⟨[(10, vi .i64 k), (7, .c (.ms 1 (accL (cuF ps b) k).length)), (8, .c (.ms 2 (accL (inF ps b) k).length)), (9, .c (.ms 3 (accL (sgF ps b) k).length)), (3, .c (.bp 0 0)), (1, .c (prs b)), (2, .c (ints ps))],
            [(3, rowv 85 2 r2 (0, 0) (accL (sgF ps b) k)), (2, rowv 85 2 r2 (0, 0) (accL (inF ps b) k)), (1, rowv 3 1 r1 0 (accL (cuF ps b) k)), (0, .box [int x, int z, trs l])], 4⟩)
          (fun k => k ≤ b.length) (fun k => b.length - k) 0 [0, 1, 2, 3] (Nat.zero_le _) ?_ ?_
        · refine ⟨rfl, ?_, ?_⟩ <;> (repeat' first | exact True.intro | exact VEq.refl _ | exact EEq.same _ | exact CEq.refl _ | exact VEq.int rfl | apply VEq.tru | apply VEq.fls | apply VEq.bool | apply VEq.int | exact VEq.nill rfl | exact VEq.zl rfl | exact VEq.nil | exact VEq.li_1 | exact VEq.li_2 | exact VEq.li_3 | exact VEq.li_4 | exact VEq.lp_1 | exact VEq.lp_2 | exact VEq.lp_3 | exact VEq.lp_4 | exact VEq.lt_1 | exact VEq.lt_2 | exact VEq.lt_3 | apply VEq.ms | apply VEq.sll | apply VEq.aggs | apply EEq.boxs | apply EEq.app1 | apply EEq.app2 | apply EEq.app3 | apply CEq.ms | apply CEq.int | apply CEq.sll | exact CEq.nill rfl | apply And.intro | exact rfl)
        · intro k hk
          have hm1 := accL_len (cuF ps b) k
          have hm2 := accL_len (inF ps b) k
          have hm3 := accL_len (sgF ps b) k
          have hm4 := accL_succ (cuF ps b) k
          have hm5 := accL_succ (inF ps b) k
          have hm6 := accL_succ (sgF ps b) k
          refine Fork.dec (fun hlt => ?_) (fun hlt => ?_)
          · have hlt : k < b.length := by omega
            have hr := hrg k (by omega)
            have hkb := kfI_bd (ps := ps) hr.2.2
            by_cases hp : 0 < ps.length
            · have hmd : 0 ≤ (k : Int).tmod ps.length ∧ (k : Int).tmod ps.length < ps.length := ⟨Int.tmod_nonneg _ (by omega), Int.tmod_lt_of_pos _ (by omega)⟩
              have hwk := hw ((k : Int).tmod ps.length).toNat (by omega)
              have c3 := C67w (n := ps.getD ((k : Int).tmod ps.length).toNat 0) (b := (b.getD k (0, 0)).2 - (b.getD k (0, 0)).1 + 1) ⟨hwk, by omega, by simp only [Md]; omega⟩
              have ek : kfI ps b k = ps.getD ((k : Int).tmod ps.length).toNat 0 % ((b.getD k (0, 0)).2 - (b.getD k (0, 0)).1 + 1) := if_pos hp
              rw [← ek] at c3
              simp only [inF, sgF, cuF] at hm4 hm5 hm6
              generalize kfI ps b k = K at *
              have hq : K.tdiv 2 = K / 2 := Int.tdiv_eq_ediv_of_nonneg hkb.1
              (repeat' first | (refine Owe.mk ?_ ?_; (· (first | trivial | omega | ((try simp only [R64, true_and, and_true, Int.toNat_natCast, List.length_cons, List.length_nil]); omega)))) | (refine Fork.same ?_; first | (refine Fork.yes ?_ ?_; (· first | exact rfl | (refine decide_eq_true ?_; omega) | (refine nd_t ?_; omega) | (simp only [decide_true, Bool.and_self, Bool.not_false]))) | (refine Fork.no ?_ ?_; (· first | exact rfl | (refine decide_eq_false ?_; omega) | (refine nd_f ?_; omega) | (simp only [decide_true, Bool.and_self, Bool.not_true]))) | refine Fork.dec (fun h => ?_) (fun h => ?_) | refine Fork.ndec (fun h => ?_) (fun h => ?_) | refine Fork.mk (fun h => ?_) (fun h => ?_)) | (refine OpsL.same ?_; first | refine Ops.pc rfl (Fits.eq rfl) c3 rfl ?_ | (refine Ops.pcp rfl (Fits.eq rfl) c3 rfl ?_ ?_; (· (first | trivial | omega | ((try simp only [R64, true_and, and_true, Int.toNat_natCast, List.length_cons, List.length_nil]); omega)))) ) | (refine OpsDL.same ?_; first | refine OpsD.pc rfl (Fits.eq rfl) c3 rfl ?_ | (refine OpsD.pcp rfl (Fits.eq rfl) c3 rfl ?_ ?_; (· (first | trivial | omega | ((try simp only [R64, true_and, and_true, Int.toNat_natCast, List.length_cons, List.length_nil]); omega)))) ) | refine MvQ.stay ?_ | refine Owe.mk ?_ ?_)
              refine again (k + 1) [0, 24, 25, 26] (by omega) (by omega) ?_
              refine ⟨rfl, ?_, ?_⟩ <;> (repeat' first | exact True.intro | exact VEq.refl _ | exact EEq.same _ | exact CEq.refl _ | exact VEq.int rfl | apply VEq.tru | apply VEq.fls | apply VEq.bool | apply VEq.int | exact VEq.nill rfl | exact VEq.zl rfl | exact VEq.nil | exact VEq.li_1 | exact VEq.li_2 | exact VEq.li_3 | exact VEq.li_4 | exact VEq.lp_1 | exact VEq.lp_2 | exact VEq.lp_3 | exact VEq.lp_4 | exact VEq.lt_1 | exact VEq.lt_2 | exact VEq.lt_3 | apply VEq.ms | apply VEq.sll | apply VEq.aggs | apply EEq.boxs | apply EEq.app1 | apply EEq.app2 | apply EEq.app3 | apply CEq.ms | apply CEq.int | apply CEq.sll | exact CEq.nill rfl | apply And.intro | exact rfl)
              · rw [hm4]; simp
              · rw [hm5]; simp
              · rw [hm6]; simp
              · exact hm6
              · exact hm5
              · exact hm4
            · have ek : kfI ps b k = 0 := if_neg hp
              simp only [inF, sgF, cuF, ek] at hm4 hm5 hm6
              have hq : (0 : Int).tdiv 2 = 0 := rfl
              (repeat' first | (refine Owe.mk ?_ ?_; (· (first | trivial | omega | ((try simp only [R64, true_and, and_true, Int.toNat_natCast, List.length_cons, List.length_nil]); omega)))) | (refine Fork.same ?_; first | (refine Fork.yes ?_ ?_; (· first | exact rfl | (refine decide_eq_true ?_; omega) | (refine nd_t ?_; omega) | (simp only [decide_true, Bool.and_self, Bool.not_false]))) | (refine Fork.no ?_ ?_; (· first | exact rfl | (refine decide_eq_false ?_; omega) | (refine nd_f ?_; omega) | (simp only [decide_true, Bool.and_self, Bool.not_true]))) | refine Fork.dec (fun h => ?_) (fun h => ?_) | refine Fork.ndec (fun h => ?_) (fun h => ?_) | refine Fork.mk (fun h => ?_) (fun h => ?_)) | (refine OpsL.same ?_; first | refine Ops.pc rfl (Fits.eq rfl) c2 rfl ?_ | (refine Ops.pcp rfl (Fits.eq rfl) c2 rfl ?_ ?_; (· (first | trivial | omega | ((try simp only [R64, true_and, and_true, Int.toNat_natCast, List.length_cons, List.length_nil]); omega)))) ) | (refine OpsDL.same ?_; first | refine OpsD.pc rfl (Fits.eq rfl) c2 rfl ?_ | (refine OpsD.pcp rfl (Fits.eq rfl) c2 rfl ?_ ?_; (· (first | trivial | omega | ((try simp only [R64, true_and, and_true, Int.toNat_natCast, List.length_cons, List.length_nil]); omega)))) ) | refine MvQ.stay ?_ | refine Owe.mk ?_ ?_)
              refine again (k + 1) [0, 4, 5, 6] (by omega) (by omega) ?_
              refine ⟨rfl, ?_, ?_⟩ <;> (repeat' first | exact True.intro | exact VEq.refl _ | exact EEq.same _ | exact CEq.refl _ | exact VEq.int rfl | apply VEq.tru | apply VEq.fls | apply VEq.bool | apply VEq.int | exact VEq.nill rfl | exact VEq.zl rfl | exact VEq.nil | exact VEq.li_1 | exact VEq.li_2 | exact VEq.li_3 | exact VEq.li_4 | exact VEq.lp_1 | exact VEq.lp_2 | exact VEq.lp_3 | exact VEq.lp_4 | exact VEq.lt_1 | exact VEq.lt_2 | exact VEq.lt_3 | apply VEq.ms | apply VEq.sll | apply VEq.aggs | apply EEq.boxs | apply EEq.app1 | apply EEq.app2 | apply EEq.app3 | apply CEq.ms | apply CEq.int | apply CEq.sll | exact CEq.nill rfl | apply And.intro | exact rfl)
              · rw [hm4]; simp
              · rw [hm5]; simp
              · rw [hm6]; simp
              · exact hm6
              · exact hm5
              · exact hm4
          · have : k = b.length := by omega
            subst this
            have lc := accL_len (cuF ps b) b.length
            have li := accL_len (inF ps b) b.length
            have ls := accL_len (sgF ps b) b.length
            have d1 := C29 (x := x) (z := z) (l := l) (c := accL (cuF ps b) b.length) (by omega)
            have d2 := C68 (x := x) (z := z) (l := l) (b := b) hlc
            have d3 := C69 (x := x) (z := z) (l := l) (b := b) hlc
            have d4 := C68 (x := x) (z := z) (l := l) (b := accL (inF ps b) b.length) (by omega)
            have d5 := C68 (x := x) (z := z) (l := l) (b := accL (sgF ps b) b.length) (by omega)
            have d6 := C70 (x := x) (z := z) (l := l) (b := b) hlc
            have d7 := C56 (x := x) (z := z) (l := l) (c := accL (cuF ps b) b.length) (by omega)
            have d8 := C70 (x := x) (z := z) (l := l) (b := accL (inF ps b) b.length) (by omega)
            have d9 := C71 lenF_ok (x := x) (z := z) (l := l) (b := b) hlc
            have d10 := C57 lenF_ok (x := x) (z := z) (l := l) (c := accL (cuF ps b) b.length) (by omega)
            have he1 : tgE (opb x z l b) = slkN x z l := by rw [tgE, if_pos ho]; exact slk_eq
            have he2 : tgE (opb x z l (accL (inF ps b) b.length)) = slkN x z l := by rw [tgE, if_pos hlbI]; exact slk_eq
            have he3 : tgE (opn x z l (accL (cuF ps b) b.length)) = slkN x z l := by rw [tgE, if_pos ho1, ho2]; exact slk_eq
            rw [ho1, orE, if_pos rfl, ho2] at d1
            rw [ho, orE, if_pos rfl] at d2 d3
            rw [hlbI, orE, if_pos rfl] at d4
            rw [hlbS, orE, if_pos rfl] at d5
            change PFD Try.prog 29 _ (.tup [.c (prs (accL (tnF (opL x z l (accL (cuF ps b) b.length))) l.length)), _]) at d1
            have hev := fun k (hk : k < l.length) => hW.each hL hk
            have hbd : ∀ k, k < l.length → _ := fun k hk => hO.bd (k + 1) hk
            have q1 := accL_len (tnF (opL x z l (accL (cuF ps b) b.length))) l.length
            have q2 := accL_len (plF ⟨x, z, l, b⟩) l.length
            have q3 := accL_len (sbF ⟨x, z, l, b⟩) l.length
            have q4 := accL_len (plF ⟨x, z, l, accL (inF ps b) b.length⟩) l.length
            have q5 := accL_len (plF ⟨x, z, l, accL (sgF ps b) b.length⟩) l.length
            have g1 : ∀ k, k < l.length → (accL (tnF (opL x z l (accL (cuF ps b) b.length))) l.length).getD k (0, 0) = tnF (opL x z l (accL (cuF ps b) b.length)) k := fun k hk => accL_get _ hk
            have g2 : ∀ k, k < l.length → (accL (plF ⟨x, z, l, b⟩) l.length).getD k (0, 0) = plF ⟨x, z, l, b⟩ k := fun k hk => accL_get _ hk
            have g3 : ∀ k, k < l.length → (accL (sbF ⟨x, z, l, b⟩) l.length).getD k (0, 0) = sbF ⟨x, z, l, b⟩ k := fun k hk => accL_get _ hk
            have g4 : ∀ k, k < l.length → (accL (plF ⟨x, z, l, accL (inF ps b) b.length⟩) l.length).getD k (0, 0) = plF ⟨x, z, l, accL (inF ps b) b.length⟩ k := fun k hk => accL_get _ hk
            have g5 : ∀ k, k < l.length → (accL (plF ⟨x, z, l, accL (sgF ps b) b.length⟩) l.length).getD k (0, 0) = plF (opL x z l (accL (cuF ps b) b.length)) k := fun k hk => by rw [accL_get _ hk, single_eq]
            have hev : ∀ k, k < l.length → ((accL (plF ⟨x, z, l, accL (inF ps b) b.length⟩) l.length).getD k (0, 0)).1 ≤ ((accL (tnF (opL x z l (accL (cuF ps b) b.length))) l.length).getD k (0, 0)).1 ∧ ((accL (tnF (opL x z l (accL (cuF ps b) b.length))) l.length).getD k (0, 0)).1 ≤ ((accL (plF ⟨x, z, l, accL (inF ps b) b.length⟩) l.length).getD k (0, 0)).2 ∧ ((accL (plF ⟨x, z, l, b⟩) l.length).getD k (0, 0)).1 ≤ ((accL (plF ⟨x, z, l, accL (inF ps b) b.length⟩) l.length).getD k (0, 0)).1 ∧ ((accL (plF ⟨x, z, l, accL (inF ps b) b.length⟩) l.length).getD k (0, 0)).2 ≤ ((accL (plF ⟨x, z, l, b⟩) l.length).getD k (0, 0)).2 ∧
                ((accL (sbF ⟨x, z, l, b⟩) l.length).getD k (0, 0)).1 ≤ sqI ((accL (tnF (opL x z l (accL (cuF ps b) b.length))) l.length).getD k (0, 0)) ∧ sqI ((accL (tnF (opL x z l (accL (cuF ps b) b.length))) l.length).getD k (0, 0)) ≤ ((accL (sbF ⟨x, z, l, b⟩) l.length).getD k (0, 0)).2 ∧ ((accL (plF ⟨x, z, l, accL (sgF ps b) b.length⟩) l.length).getD k (0, 0)).1 = ((accL (tnF (opL x z l (accL (cuF ps b) b.length))) l.length).getD k (0, 0)).1 ∧ ((accL (plF ⟨x, z, l, accL (sgF ps b) b.length⟩) l.length).getD k (0, 0)).2 = ((accL (tnF (opL x z l (accL (cuF ps b) b.length))) l.length).getD k (0, 0)).1 ∧
                tzOk ((accL (tnF (opL x z l (accL (cuF ps b) b.length))) l.length).getD k (0, 0)) := fun k hk => by
              rw [g1 k hk, g2 k hk, g3 k hk, g4 k hk, g5 k hk]
              obtain ⟨⟨a1, a2⟩, a3, a4, ⟨a5, a6⟩, a7⟩ := hev k hk
              exact ⟨a1, a2, a3, a4, a5, a6, by rw [a7], by rw [a7], (hbd k hk).1, (hbd k hk).2.2⟩
            clear g1 g2 g3 g4 g5 hbd
            generalize accL (tnF (opL x z l (accL (cuF ps b) b.length))) l.length = T at *
            generalize accL (plF ⟨x, z, l, b⟩) l.length = P at *
            generalize accL (sbF ⟨x, z, l, b⟩) l.length = S at *
            generalize accL (plF ⟨x, z, l, accL (inF ps b) b.length⟩) l.length = Q at *
            generalize accL (plF ⟨x, z, l, accL (sgF ps b) b.length⟩) l.length = W at *
            (repeat' first | (refine Owe.mk ?_ ?_; (· (first | trivial | omega | ((try simp only [R64, true_and, and_true, Int.toNat_natCast, List.length_cons, List.length_nil]); omega)))) | (refine Fork.same ?_; first | (refine Fork.yes ?_ ?_; (· first | exact rfl | (refine decide_eq_true ?_; omega) | (refine nd_t ?_; omega) | (simp only [decide_true, Bool.and_self, Bool.not_false]))) | (refine Fork.no ?_ ?_; (· first | exact rfl | (refine decide_eq_false ?_; omega) | (refine nd_f ?_; omega) | (simp only [decide_true, Bool.and_self, Bool.not_true]))) | refine Fork.dec (fun h => ?_) (fun h => ?_) | refine Fork.ndec (fun h => ?_) (fun h => ?_) | refine Fork.mk (fun h => ?_) (fun h => ?_)) | (refine OpsL.same ?_; first | refine Ops.pc rfl (Fits.eq rfl) C30 rfl ?_ | (refine Ops.pcp rfl (Fits.eq rfl) C30 rfl ?_ ?_; (· (first | trivial | omega | ((try simp only [R64, true_and, and_true, Int.toNat_natCast, List.length_cons, List.length_nil]); omega)))) ) | (refine OpsDL.same ?_; first | refine OpsD.pc rfl (Fits.eq rfl) C30 rfl ?_ | (refine OpsD.pcp rfl (Fits.eq rfl) C30 rfl ?_ ?_; (· (first | trivial | omega | ((try simp only [R64, true_and, and_true, Int.toNat_natCast, List.length_cons, List.length_nil]); omega)))) ) | refine MvQ.stay ?_ | refine Owe.mk ?_ ?_)
            refine OpsL.frz 7 _ rfl rfl (Nat.le_refl _) ?_
            refine OpsL.frz 8 _ rfl rfl (Nat.le_refl _) ?_
            refine OpsL.frz 9 _ rfl rfl (Nat.le_refl _) ?_
            refine OpsL.frz 117 _ rfl rfl (Nat.le_refl _) ?_
            (repeat' first | (refine Owe.mk ?_ ?_; (· (first | trivial | omega | ((try simp only [R64, true_and, and_true, Int.toNat_natCast, List.length_cons, List.length_nil]); omega)))) | (refine Fork.same ?_; first | (refine Fork.yes ?_ ?_; (· first | exact rfl | (refine decide_eq_true ?_; omega) | (refine nd_t ?_; omega) | (simp only [decide_true, Bool.and_self, Bool.not_false]))) | (refine Fork.no ?_ ?_; (· first | exact rfl | (refine decide_eq_false ?_; omega) | (refine nd_f ?_; omega) | (simp only [decide_true, Bool.and_self, Bool.not_true]))) | refine Fork.dec (fun h => ?_) (fun h => ?_) | refine Fork.ndec (fun h => ?_) (fun h => ?_) | refine Fork.mk (fun h => ?_) (fun h => ?_)) | (refine OpsL.same ?_; first | refine Ops.pc rfl (Fits.eq rfl) C30 rfl ?_ | (refine Ops.pcp rfl (Fits.eq rfl) C30 rfl ?_ ?_; (· (first | trivial | omega | ((try simp only [R64, true_and, and_true, Int.toNat_natCast, List.length_cons, List.length_nil]); omega)))) | refine Ops.pc rfl (Fits.eq rfl) C31 rfl ?_ | (refine Ops.pcp rfl (Fits.eq rfl) C31 rfl ?_ ?_; (· (first | trivial | omega | ((try simp only [R64, true_and, and_true, Int.toNat_natCast, List.length_cons, List.length_nil]); omega)))) | refine Ops.pc rfl (Fits.eq rfl) C48 rfl ?_ | (refine Ops.pcp rfl (Fits.eq rfl) C48 rfl ?_ ?_; (· (first | trivial | omega | ((try simp only [R64, true_and, and_true, Int.toNat_natCast, List.length_cons, List.length_nil]); omega)))) | refine Ops.pc rfl (Fits.eq rfl) d1 rfl ?_ | (refine Ops.pcp rfl (Fits.eq rfl) d1 rfl ?_ ?_; (· (first | trivial | omega | ((try simp only [R64, true_and, and_true, Int.toNat_natCast, List.length_cons, List.length_nil]); omega)))) | refine Ops.pc rfl (Fits.eq rfl) d2 rfl ?_ | (refine Ops.pcp rfl (Fits.eq rfl) d2 rfl ?_ ?_; (· (first | trivial | omega | ((try simp only [R64, true_and, and_true, Int.toNat_natCast, List.length_cons, List.length_nil]); omega)))) | refine Ops.pc rfl (Fits.eq rfl) d3 rfl ?_ | (refine Ops.pcp rfl (Fits.eq rfl) d3 rfl ?_ ?_; (· (first | trivial | omega | ((try simp only [R64, true_and, and_true, Int.toNat_natCast, List.length_cons, List.length_nil]); omega)))) | refine Ops.pc rfl (Fits.eq rfl) d4 rfl ?_ | (refine Ops.pcp rfl (Fits.eq rfl) d4 rfl ?_ ?_; (· (first | trivial | omega | ((try simp only [R64, true_and, and_true, Int.toNat_natCast, List.length_cons, List.length_nil]); omega)))) | refine Ops.pc rfl (Fits.eq rfl) d5 rfl ?_ | (refine Ops.pcp rfl (Fits.eq rfl) d5 rfl ?_ ?_; (· (first | trivial | omega | ((try simp only [R64, true_and, and_true, Int.toNat_natCast, List.length_cons, List.length_nil]); omega)))) ) | (refine OpsDL.same ?_; first | refine OpsD.pc rfl (Fits.eq rfl) C30 rfl ?_ | (refine OpsD.pcp rfl (Fits.eq rfl) C30 rfl ?_ ?_; (· (first | trivial | omega | ((try simp only [R64, true_and, and_true, Int.toNat_natCast, List.length_cons, List.length_nil]); omega)))) | refine OpsD.pc rfl (Fits.eq rfl) C31 rfl ?_ | (refine OpsD.pcp rfl (Fits.eq rfl) C31 rfl ?_ ?_; (· (first | trivial | omega | ((try simp only [R64, true_and, and_true, Int.toNat_natCast, List.length_cons, List.length_nil]); omega)))) | refine OpsD.pc rfl (Fits.eq rfl) C48 rfl ?_ | (refine OpsD.pcp rfl (Fits.eq rfl) C48 rfl ?_ ?_; (· (first | trivial | omega | ((try simp only [R64, true_and, and_true, Int.toNat_natCast, List.length_cons, List.length_nil]); omega)))) | refine OpsD.pc rfl (Fits.eq rfl) d1 rfl ?_ | (refine OpsD.pcp rfl (Fits.eq rfl) d1 rfl ?_ ?_; (· (first | trivial | omega | ((try simp only [R64, true_and, and_true, Int.toNat_natCast, List.length_cons, List.length_nil]); omega)))) | refine OpsD.pc rfl (Fits.eq rfl) d2 rfl ?_ | (refine OpsD.pcp rfl (Fits.eq rfl) d2 rfl ?_ ?_; (· (first | trivial | omega | ((try simp only [R64, true_and, and_true, Int.toNat_natCast, List.length_cons, List.length_nil]); omega)))) | refine OpsD.pc rfl (Fits.eq rfl) d3 rfl ?_ | (refine OpsD.pcp rfl (Fits.eq rfl) d3 rfl ?_ ?_; (· (first | trivial | omega | ((try simp only [R64, true_and, and_true, Int.toNat_natCast, List.length_cons, List.length_nil]); omega)))) | refine OpsD.pc rfl (Fits.eq rfl) d4 rfl ?_ | (refine OpsD.pcp rfl (Fits.eq rfl) d4 rfl ?_ ?_; (· (first | trivial | omega | ((try simp only [R64, true_and, and_true, Int.toNat_natCast, List.length_cons, List.length_nil]); omega)))) | refine OpsD.pc rfl (Fits.eq rfl) d5 rfl ?_ | (refine OpsD.pcp rfl (Fits.eq rfl) d5 rfl ?_ ?_; (· (first | trivial | omega | ((try simp only [R64, true_and, and_true, Int.toNat_natCast, List.length_cons, List.length_nil]); omega)))) ) | refine MvQ.stay ?_ | refine Owe.mk ?_ ?_)
            refine Sat.lp (fun k : Nat => ⟨[(23, vi .i64 k), (13, .c (prs T)), (15, .c (prs P)), (17, .c (prs S)), (19, .c (prs Q)), (21, .c (prs W)), (7, .c (ints (accL (cuF ps b) b.length))), (8, .c (prs (accL (inF ps b) b.length))), (3, .c (.bp 0 0)), (1, .c (prs b))], [(0, .box [int x, int z, trs l])], 1⟩)
              (fun k => k ≤ b.length) (fun k => b.length - k) 0 [0] (Nat.zero_le _) ?_ ?_
            · refine ⟨rfl, ?_, ?_⟩ <;> (repeat' first | exact True.intro | exact VEq.refl _ | exact EEq.same _ | exact CEq.refl _ | exact VEq.int rfl | apply VEq.tru | apply VEq.fls | apply VEq.bool | apply VEq.int | exact VEq.nill rfl | exact VEq.zl rfl | exact VEq.nil | exact VEq.li_1 | exact VEq.li_2 | exact VEq.li_3 | exact VEq.li_4 | exact VEq.lp_1 | exact VEq.lp_2 | exact VEq.lp_3 | exact VEq.lp_4 | exact VEq.lt_1 | exact VEq.lt_2 | exact VEq.lt_3 | apply VEq.ms | apply VEq.sll | apply VEq.aggs | apply EEq.boxs | apply EEq.app1 | apply EEq.app2 | apply EEq.app3 | apply CEq.ms | apply CEq.int | apply CEq.sll | exact CEq.nill rfl | apply And.intro | exact rfl)
            · intro k hk
              refine Fork.dec (fun hlt => ?_) (fun hlt => ?_)
              · have hlt : k < b.length := by omega
                obtain ⟨a1, a2, a3, a4, a5, a6, a7, a8, a9⟩ := hev k (by omega)
                obtain ⟨b1, b2, b3, b4, b5, b6, b7, b8, b9⟩ := hev (k : Int).toNat (by omega)
                have m1 := mbd (A := 20000) (B := 20000) a9.1 a9.1
                have m2 := mbd (A := 20000) (B := 20000) a9.2 a9.2
                have c3 := C16 (n := (T.getD k (0, 0)).1) (lo := (Q.getD k (0, 0)).1) (hi := (Q.getD k (0, 0)).2)
                have c4 := C16 (n := (T.getD k (0, 0)).1 * (T.getD k (0, 0)).1 + (T.getD k (0, 0)).2 * (T.getD k (0, 0)).2) (lo := (S.getD k (0, 0)).1) (hi := (S.getD k (0, 0)).2)
                rw [decide_eq_true ⟨a1, a2⟩] at c3
                rw [decide_eq_true ⟨a5, a6⟩] at c4
                (repeat' first | (refine Owe.mk ?_ ?_; (· (first | trivial | omega | ((try simp only [R64, true_and, and_true, Int.toNat_natCast, List.length_cons, List.length_nil]); omega)))) | (refine Fork.same ?_; first | (refine Fork.yes ?_ ?_; (· first | exact rfl | (refine decide_eq_true ?_; omega) | (refine nd_t ?_; omega) | (simp only [decide_true, Bool.and_self, Bool.not_false]))) | (refine Fork.no ?_ ?_; (· first | exact rfl | (refine decide_eq_false ?_; omega) | (refine nd_f ?_; omega) | (simp only [decide_true, Bool.and_self, Bool.not_true]))) | refine Fork.dec (fun h => ?_) (fun h => ?_) | refine Fork.ndec (fun h => ?_) (fun h => ?_) | refine Fork.mk (fun h => ?_) (fun h => ?_)) | (refine OpsL.same ?_; first | refine Ops.pc rfl (Fits.eq rfl) c3 rfl ?_ | (refine Ops.pcp rfl (Fits.eq rfl) c3 rfl ?_ ?_; (· (first | trivial | omega | ((try simp only [R64, true_and, and_true, Int.toNat_natCast, List.length_cons, List.length_nil]); omega)))) | refine Ops.pc rfl (Fits.eq rfl) c4 rfl ?_ | (refine Ops.pcp rfl (Fits.eq rfl) c4 rfl ?_ ?_; (· (first | trivial | omega | ((try simp only [R64, true_and, and_true, Int.toNat_natCast, List.length_cons, List.length_nil]); omega)))) ) | (refine OpsDL.same ?_; first | refine OpsD.pc rfl (Fits.eq rfl) c3 rfl ?_ | (refine OpsD.pcp rfl (Fits.eq rfl) c3 rfl ?_ ?_; (· (first | trivial | omega | ((try simp only [R64, true_and, and_true, Int.toNat_natCast, List.length_cons, List.length_nil]); omega)))) | refine OpsD.pc rfl (Fits.eq rfl) c4 rfl ?_ | (refine OpsD.pcp rfl (Fits.eq rfl) c4 rfl ?_ ?_; (· (first | trivial | omega | ((try simp only [R64, true_and, and_true, Int.toNat_natCast, List.length_cons, List.length_nil]); omega)))) ) | refine MvQ.stay ?_ | refine Owe.mk ?_ ?_)
                · rw [b7, b8] at h
                  simp at h
                · refine again (k + 1) [0] (by omega) (by omega) ?_
                  refine ⟨rfl, ?_, ?_⟩ <;> (repeat' first | exact True.intro | exact VEq.refl _ | exact EEq.same _ | exact CEq.refl _ | exact VEq.int rfl | apply VEq.tru | apply VEq.fls | apply VEq.bool | apply VEq.int | exact VEq.nill rfl | exact VEq.zl rfl | exact VEq.nil | exact VEq.li_1 | exact VEq.li_2 | exact VEq.li_3 | exact VEq.li_4 | exact VEq.lp_1 | exact VEq.lp_2 | exact VEq.lp_3 | exact VEq.lp_4 | exact VEq.lt_1 | exact VEq.lt_2 | exact VEq.lt_3 | apply VEq.ms | apply VEq.sll | apply VEq.aggs | apply EEq.boxs | apply EEq.app1 | apply EEq.app2 | apply EEq.app3 | apply CEq.ms | apply CEq.int | apply CEq.sll | exact CEq.nill rfl | apply And.intro | exact rfl)
              · have : k = b.length := by omega
                subst this
                by_cases h2 : slkN x z l = 0
                · have hT : (Ln.mk x z l b).Tight := tgE_ok (o := opb x z l b) (by rw [he1, h2]) fun h => lbE_ok h
                  have hall := hW.all hT
                  rw [he1, h2, orP, if_pos rfl] at d6
                  rw [he3, h2, orP, if_pos rfl, ho2] at d7 d10
                  rw [he2, h2, orP, if_pos rfl] at d8
                  rw [he1, h2, if_pos rfl] at d9
                  change PFD Try.prog 71 _ (.tup [vi .i64 (sumI (enF lenF ⟨x, z, l, b⟩) l.length), _]) at d9
                  change PFD Try.prog 70 _ (.tup [.agg [int (laybk ⟨x, z, l, b⟩).1, int (laybk ⟨x, z, l, b⟩).2], _]) at d6
                  change PFD Try.prog 70 _ (.tup [.agg [int (laybk ⟨x, z, l, accL (inF ps b) b.length⟩).1, int (laybk ⟨x, z, l, accL (inF ps b) b.length⟩).2], _]) at d8
                  generalize sumI (enF lenF ⟨x, z, l, b⟩) l.length = E at *
                  generalize laybk ⟨x, z, l, b⟩ = R at *
                  generalize laybk ⟨x, z, l, accL (inF ps b) b.length⟩ = V at *
                  generalize laybk (opL x z l (accL (cuF ps b) b.length)) = U at *
                  generalize lenL lenF (opL x z l (accL (cuF ps b) b.length)) = N at *
                  (repeat' first | (refine Owe.mk ?_ ?_; (· (first | trivial | omega | ((try simp only [R64, true_and, and_true, Int.toNat_natCast, List.length_cons, List.length_nil]); omega)))) | (refine Fork.same ?_; first | (refine Fork.yes ?_ ?_; (· first | exact rfl | (refine decide_eq_true ?_; omega) | (refine nd_t ?_; omega) | (simp only [decide_true, Bool.and_self, Bool.not_false]))) | (refine Fork.no ?_ ?_; (· first | exact rfl | (refine decide_eq_false ?_; omega) | (refine nd_f ?_; omega) | (simp only [decide_true, Bool.and_self, Bool.not_true]))) | refine Fork.dec (fun h => ?_) (fun h => ?_) | refine Fork.ndec (fun h => ?_) (fun h => ?_) | refine Fork.mk (fun h => ?_) (fun h => ?_)) | (refine OpsL.same ?_; first | refine Ops.pc rfl (Fits.eq rfl) C30 rfl ?_ | (refine Ops.pcp rfl (Fits.eq rfl) C30 rfl ?_ ?_; (· (first | trivial | omega | ((try simp only [R64, true_and, and_true, Int.toNat_natCast, List.length_cons, List.length_nil]); omega)))) | refine Ops.pc rfl (Fits.eq rfl) C31 rfl ?_ | (refine Ops.pcp rfl (Fits.eq rfl) C31 rfl ?_ ?_; (· (first | trivial | omega | ((try simp only [R64, true_and, and_true, Int.toNat_natCast, List.length_cons, List.length_nil]); omega)))) | refine Ops.pc rfl (Fits.eq rfl) C48 rfl ?_ | (refine Ops.pcp rfl (Fits.eq rfl) C48 rfl ?_ ?_; (· (first | trivial | omega | ((try simp only [R64, true_and, and_true, Int.toNat_natCast, List.length_cons, List.length_nil]); omega)))) | refine Ops.pc rfl (Fits.eq rfl) d6 rfl ?_ | (refine Ops.pcp rfl (Fits.eq rfl) d6 rfl ?_ ?_; (· (first | trivial | omega | ((try simp only [R64, true_and, and_true, Int.toNat_natCast, List.length_cons, List.length_nil]); omega)))) | refine Ops.pc rfl (Fits.eq rfl) d7 rfl ?_ | (refine Ops.pcp rfl (Fits.eq rfl) d7 rfl ?_ ?_; (· (first | trivial | omega | ((try simp only [R64, true_and, and_true, Int.toNat_natCast, List.length_cons, List.length_nil]); omega)))) | refine Ops.pc rfl (Fits.eq rfl) d8 rfl ?_ | (refine Ops.pcp rfl (Fits.eq rfl) d8 rfl ?_ ?_; (· (first | trivial | omega | ((try simp only [R64, true_and, and_true, Int.toNat_natCast, List.length_cons, List.length_nil]); omega)))) | refine Ops.pc rfl (Fits.eq rfl) d9 rfl ?_ | (refine Ops.pcp rfl (Fits.eq rfl) d9 rfl ?_ ?_; (· (first | trivial | omega | ((try simp only [R64, true_and, and_true, Int.toNat_natCast, List.length_cons, List.length_nil]); omega)))) | refine Ops.pc rfl (Fits.eq rfl) d10 rfl ?_ | (refine Ops.pcp rfl (Fits.eq rfl) d10 rfl ?_ ?_; (· (first | trivial | omega | ((try simp only [R64, true_and, and_true, Int.toNat_natCast, List.length_cons, List.length_nil]); omega)))) ) | (refine OpsDL.same ?_; first | refine OpsD.pc rfl (Fits.eq rfl) C30 rfl ?_ | (refine OpsD.pcp rfl (Fits.eq rfl) C30 rfl ?_ ?_; (· (first | trivial | omega | ((try simp only [R64, true_and, and_true, Int.toNat_natCast, List.length_cons, List.length_nil]); omega)))) | refine OpsD.pc rfl (Fits.eq rfl) C31 rfl ?_ | (refine OpsD.pcp rfl (Fits.eq rfl) C31 rfl ?_ ?_; (· (first | trivial | omega | ((try simp only [R64, true_and, and_true, Int.toNat_natCast, List.length_cons, List.length_nil]); omega)))) | refine OpsD.pc rfl (Fits.eq rfl) C48 rfl ?_ | (refine OpsD.pcp rfl (Fits.eq rfl) C48 rfl ?_ ?_; (· (first | trivial | omega | ((try simp only [R64, true_and, and_true, Int.toNat_natCast, List.length_cons, List.length_nil]); omega)))) | refine OpsD.pc rfl (Fits.eq rfl) d6 rfl ?_ | (refine OpsD.pcp rfl (Fits.eq rfl) d6 rfl ?_ ?_; (· (first | trivial | omega | ((try simp only [R64, true_and, and_true, Int.toNat_natCast, List.length_cons, List.length_nil]); omega)))) | refine OpsD.pc rfl (Fits.eq rfl) d7 rfl ?_ | (refine OpsD.pcp rfl (Fits.eq rfl) d7 rfl ?_ ?_; (· (first | trivial | omega | ((try simp only [R64, true_and, and_true, Int.toNat_natCast, List.length_cons, List.length_nil]); omega)))) | refine OpsD.pc rfl (Fits.eq rfl) d8 rfl ?_ | (refine OpsD.pcp rfl (Fits.eq rfl) d8 rfl ?_ ?_; (· (first | trivial | omega | ((try simp only [R64, true_and, and_true, Int.toNat_natCast, List.length_cons, List.length_nil]); omega)))) | refine OpsD.pc rfl (Fits.eq rfl) d9 rfl ?_ | (refine OpsD.pcp rfl (Fits.eq rfl) d9 rfl ?_ ?_; (· (first | trivial | omega | ((try simp only [R64, true_and, and_true, Int.toNat_natCast, List.length_cons, List.length_nil]); omega)))) | refine OpsD.pc rfl (Fits.eq rfl) d10 rfl ?_ | (refine OpsD.pcp rfl (Fits.eq rfl) d10 rfl ?_ ?_; (· (first | trivial | omega | ((try simp only [R64, true_and, and_true, Int.toNat_natCast, List.length_cons, List.length_nil]); omega)))) ) | refine MvQ.stay ?_ | refine Owe.mk ?_ ?_)
                  (refine RetQ.plain (Nat.le_refl _) (by first | exact .inr rfl | exact .inl rfl) rfl (by (simp only [cloL, clo, cloC, cloCs, and_self])) ?_; (repeat' first | exact True.intro | exact VEq.refl _ | exact EEq.same _ | exact CEq.refl _ | exact VEq.int rfl | apply VEq.tru | apply VEq.fls | apply VEq.bool | apply VEq.int | exact VEq.nill rfl | exact VEq.zl rfl | exact VEq.nil | exact VEq.li_1 | exact VEq.li_2 | exact VEq.li_3 | exact VEq.li_4 | exact VEq.lp_1 | exact VEq.lp_2 | exact VEq.lp_3 | exact VEq.lp_4 | exact VEq.lt_1 | exact VEq.lt_2 | exact VEq.lt_3 | apply VEq.ms | apply VEq.sll | apply VEq.aggs | apply EEq.boxs | apply EEq.app1 | apply EEq.app2 | apply EEq.app3 | apply CEq.ms | apply CEq.int | apply CEq.sll | exact CEq.nill rfl | apply And.intro | exact rfl))
                  exact decide_eq_true hall.2.2.2.2.2
                · rw [he1, orP, if_neg h2] at d6
                  rw [he3, orP, if_neg h2] at d7 d10
                  rw [he2, orP, if_neg h2] at d8
                  rw [he1, if_neg h2] at d9
                  (repeat' first | (refine Owe.mk ?_ ?_; (· (first | trivial | omega | ((try simp only [R64, true_and, and_true, Int.toNat_natCast, List.length_cons, List.length_nil]); omega)))) | (refine Fork.same ?_; first | (refine Fork.yes ?_ ?_; (· first | exact rfl | (refine decide_eq_true ?_; omega) | (refine nd_t ?_; omega) | (simp only [decide_true, Bool.and_self, Bool.not_false]))) | (refine Fork.no ?_ ?_; (· first | exact rfl | (refine decide_eq_false ?_; omega) | (refine nd_f ?_; omega) | (simp only [decide_true, Bool.and_self, Bool.not_true]))) | refine Fork.dec (fun h => ?_) (fun h => ?_) | refine Fork.ndec (fun h => ?_) (fun h => ?_) | refine Fork.mk (fun h => ?_) (fun h => ?_)) | (refine OpsL.same ?_; first | refine Ops.pc rfl (Fits.eq rfl) C30 rfl ?_ | (refine Ops.pcp rfl (Fits.eq rfl) C30 rfl ?_ ?_; (· (first | trivial | omega | ((try simp only [R64, true_and, and_true, Int.toNat_natCast, List.length_cons, List.length_nil]); omega)))) | refine Ops.pc rfl (Fits.eq rfl) C31 rfl ?_ | (refine Ops.pcp rfl (Fits.eq rfl) C31 rfl ?_ ?_; (· (first | trivial | omega | ((try simp only [R64, true_and, and_true, Int.toNat_natCast, List.length_cons, List.length_nil]); omega)))) | refine Ops.pc rfl (Fits.eq rfl) C48 rfl ?_ | (refine Ops.pcp rfl (Fits.eq rfl) C48 rfl ?_ ?_; (· (first | trivial | omega | ((try simp only [R64, true_and, and_true, Int.toNat_natCast, List.length_cons, List.length_nil]); omega)))) | refine Ops.pc rfl (Fits.eq rfl) d6 rfl ?_ | (refine Ops.pcp rfl (Fits.eq rfl) d6 rfl ?_ ?_; (· (first | trivial | omega | ((try simp only [R64, true_and, and_true, Int.toNat_natCast, List.length_cons, List.length_nil]); omega)))) | refine Ops.pc rfl (Fits.eq rfl) d7 rfl ?_ | (refine Ops.pcp rfl (Fits.eq rfl) d7 rfl ?_ ?_; (· (first | trivial | omega | ((try simp only [R64, true_and, and_true, Int.toNat_natCast, List.length_cons, List.length_nil]); omega)))) | refine Ops.pc rfl (Fits.eq rfl) d8 rfl ?_ | (refine Ops.pcp rfl (Fits.eq rfl) d8 rfl ?_ ?_; (· (first | trivial | omega | ((try simp only [R64, true_and, and_true, Int.toNat_natCast, List.length_cons, List.length_nil]); omega)))) | refine Ops.pc rfl (Fits.eq rfl) d9 rfl ?_ | (refine Ops.pcp rfl (Fits.eq rfl) d9 rfl ?_ ?_; (· (first | trivial | omega | ((try simp only [R64, true_and, and_true, Int.toNat_natCast, List.length_cons, List.length_nil]); omega)))) | refine Ops.pc rfl (Fits.eq rfl) d10 rfl ?_ | (refine Ops.pcp rfl (Fits.eq rfl) d10 rfl ?_ ?_; (· (first | trivial | omega | ((try simp only [R64, true_and, and_true, Int.toNat_natCast, List.length_cons, List.length_nil]); omega)))) ) | (refine OpsDL.same ?_; first | refine OpsD.pc rfl (Fits.eq rfl) C30 rfl ?_ | (refine OpsD.pcp rfl (Fits.eq rfl) C30 rfl ?_ ?_; (· (first | trivial | omega | ((try simp only [R64, true_and, and_true, Int.toNat_natCast, List.length_cons, List.length_nil]); omega)))) | refine OpsD.pc rfl (Fits.eq rfl) C31 rfl ?_ | (refine OpsD.pcp rfl (Fits.eq rfl) C31 rfl ?_ ?_; (· (first | trivial | omega | ((try simp only [R64, true_and, and_true, Int.toNat_natCast, List.length_cons, List.length_nil]); omega)))) | refine OpsD.pc rfl (Fits.eq rfl) C48 rfl ?_ | (refine OpsD.pcp rfl (Fits.eq rfl) C48 rfl ?_ ?_; (· (first | trivial | omega | ((try simp only [R64, true_and, and_true, Int.toNat_natCast, List.length_cons, List.length_nil]); omega)))) | refine OpsD.pc rfl (Fits.eq rfl) d6 rfl ?_ | (refine OpsD.pcp rfl (Fits.eq rfl) d6 rfl ?_ ?_; (· (first | trivial | omega | ((try simp only [R64, true_and, and_true, Int.toNat_natCast, List.length_cons, List.length_nil]); omega)))) | refine OpsD.pc rfl (Fits.eq rfl) d7 rfl ?_ | (refine OpsD.pcp rfl (Fits.eq rfl) d7 rfl ?_ ?_; (· (first | trivial | omega | ((try simp only [R64, true_and, and_true, Int.toNat_natCast, List.length_cons, List.length_nil]); omega)))) | refine OpsD.pc rfl (Fits.eq rfl) d8 rfl ?_ | (refine OpsD.pcp rfl (Fits.eq rfl) d8 rfl ?_ ?_; (· (first | trivial | omega | ((try simp only [R64, true_and, and_true, Int.toNat_natCast, List.length_cons, List.length_nil]); omega)))) | refine OpsD.pc rfl (Fits.eq rfl) d9 rfl ?_ | (refine OpsD.pcp rfl (Fits.eq rfl) d9 rfl ?_ ?_; (· (first | trivial | omega | ((try simp only [R64, true_and, and_true, Int.toNat_natCast, List.length_cons, List.length_nil]); omega)))) | refine OpsD.pc rfl (Fits.eq rfl) d10 rfl ?_ | (refine OpsD.pcp rfl (Fits.eq rfl) d10 rfl ?_ ?_; (· (first | trivial | omega | ((try simp only [R64, true_and, and_true, Int.toNat_natCast, List.length_cons, List.length_nil]); omega)))) ) | refine MvQ.stay ?_ | refine Owe.mk ?_ ?_)
                  (refine RetQ.plain (Nat.le_refl _) (by first | exact .inr rfl | exact .inl rfl) rfl (by (simp only [cloL, clo, cloC, cloCs, and_self])) ?_; (repeat' first | exact True.intro | exact VEq.refl _ | exact EEq.same _ | exact CEq.refl _ | exact VEq.int rfl | apply VEq.tru | apply VEq.fls | apply VEq.bool | apply VEq.int | exact VEq.nill rfl | exact VEq.zl rfl | exact VEq.nil | exact VEq.li_1 | exact VEq.li_2 | exact VEq.li_3 | exact VEq.li_4 | exact VEq.lp_1 | exact VEq.lp_2 | exact VEq.lp_3 | exact VEq.lp_4 | exact VEq.lt_1 | exact VEq.lt_2 | exact VEq.lt_3 | apply VEq.ms | apply VEq.sll | apply VEq.aggs | apply EEq.boxs | apply EEq.app1 | apply EEq.app2 | apply EEq.app3 | apply CEq.ms | apply CEq.int | apply CEq.sll | exact CEq.nill rfl | apply And.intro | exact rfl))
      · refine PFD.of (vs := [_]) fn11 rfl (by (simp only [cloL, clo, cloC, cloCs, and_self])) ?_
        (repeat' first | (refine Owe.mk ?_ ?_; (· (first | trivial | omega | ((try simp only [R64, true_and, and_true, Int.toNat_natCast, List.length_cons, List.length_nil]); omega)))) | (refine Fork.same ?_; first | (refine Fork.yes ?_ ?_; (· first | exact rfl | (refine decide_eq_true ?_; omega) | (refine nd_t ?_; omega) | (simp only [decide_true, Bool.and_self, Bool.not_false]))) | (refine Fork.no ?_ ?_; (· first | exact rfl | (refine decide_eq_false ?_; omega) | (refine nd_f ?_; omega) | (simp only [decide_true, Bool.and_self, Bool.not_true]))) | refine Fork.dec (fun h => ?_) (fun h => ?_) | refine Fork.ndec (fun h => ?_) (fun h => ?_) | refine Fork.mk (fun h => ?_) (fun h => ?_)) | (refine OpsL.same ?_; first | refine Ops.pc rfl (Fits.eq rfl) C15 rfl ?_ | (refine Ops.pcp rfl (Fits.eq rfl) C15 rfl ?_ ?_; (· (first | trivial | omega | ((try simp only [R64, true_and, and_true, Int.toNat_natCast, List.length_cons, List.length_nil]); omega)))) | refine Ops.pc rfl (Fits.eq rfl) C28 rfl ?_ | (refine Ops.pcp rfl (Fits.eq rfl) C28 rfl ?_ ?_; (· (first | trivial | omega | ((try simp only [R64, true_and, and_true, Int.toNat_natCast, List.length_cons, List.length_nil]); omega)))) | refine Ops.pc rfl (Fits.eq rfl) c1 rfl ?_ | (refine Ops.pcp rfl (Fits.eq rfl) c1 rfl ?_ ?_; (· (first | trivial | omega | ((try simp only [R64, true_and, and_true, Int.toNat_natCast, List.length_cons, List.length_nil]); omega)))) | refine Ops.pc rfl (Fits.eq rfl) c2 rfl ?_ | (refine Ops.pcp rfl (Fits.eq rfl) c2 rfl ?_ ?_; (· (first | trivial | omega | ((try simp only [R64, true_and, and_true, Int.toNat_natCast, List.length_cons, List.length_nil]); omega)))) ) | (refine OpsDL.same ?_; first | refine OpsD.pc rfl (Fits.eq rfl) C15 rfl ?_ | (refine OpsD.pcp rfl (Fits.eq rfl) C15 rfl ?_ ?_; (· (first | trivial | omega | ((try simp only [R64, true_and, and_true, Int.toNat_natCast, List.length_cons, List.length_nil]); omega)))) | refine OpsD.pc rfl (Fits.eq rfl) C28 rfl ?_ | (refine OpsD.pcp rfl (Fits.eq rfl) C28 rfl ?_ ?_; (· (first | trivial | omega | ((try simp only [R64, true_and, and_true, Int.toNat_natCast, List.length_cons, List.length_nil]); omega)))) | refine OpsD.pc rfl (Fits.eq rfl) c1 rfl ?_ | (refine OpsD.pcp rfl (Fits.eq rfl) c1 rfl ?_ ?_; (· (first | trivial | omega | ((try simp only [R64, true_and, and_true, Int.toNat_natCast, List.length_cons, List.length_nil]); omega)))) | refine OpsD.pc rfl (Fits.eq rfl) c2 rfl ?_ | (refine OpsD.pcp rfl (Fits.eq rfl) c2 rfl ?_ ?_; (· (first | trivial | omega | ((try simp only [R64, true_and, and_true, Int.toNat_natCast, List.length_cons, List.length_nil]); omega)))) ) | refine MvQ.stay ?_ | refine Owe.mk ?_ ?_)
        all_goals (refine RetQ.plain (Nat.le_refl _) (by first | exact .inr rfl | exact .inl rfl) rfl (by (simp only [cloL, clo, cloC, cloCs, and_self])) ?_; (repeat' first | exact True.intro | exact VEq.refl _ | exact EEq.same _ | exact CEq.refl _ | exact VEq.int rfl | apply VEq.tru | apply VEq.fls | apply VEq.bool | apply VEq.int | exact VEq.nill rfl | exact VEq.zl rfl | exact VEq.nil | exact VEq.li_1 | exact VEq.li_2 | exact VEq.li_3 | exact VEq.li_4 | exact VEq.lp_1 | exact VEq.lp_2 | exact VEq.lp_3 | exact VEq.lp_4 | exact VEq.lt_1 | exact VEq.lt_2 | exact VEq.lt_3 | apply VEq.ms | apply VEq.sll | apply VEq.aggs | apply EEq.boxs | apply EEq.app1 | apply EEq.app2 | apply EEq.app3 | apply CEq.ms | apply CEq.int | apply CEq.sll | exact CEq.nill rfl | apply And.intro | exact rfl))
    · refine PFD.of (vs := [_]) fn11 rfl (by (simp only [cloL, clo, cloC, cloCs, and_self])) ?_
      (repeat' first | (refine Owe.mk ?_ ?_; (· (first | trivial | omega | ((try simp only [R64, true_and, and_true, Int.toNat_natCast, List.length_cons, List.length_nil]); omega)))) | (refine Fork.same ?_; first | (refine Fork.yes ?_ ?_; (· first | exact rfl | (refine decide_eq_true ?_; omega) | (refine nd_t ?_; omega) | (simp only [decide_true, Bool.and_self, Bool.not_false]))) | (refine Fork.no ?_ ?_; (· first | exact rfl | (refine decide_eq_false ?_; omega) | (refine nd_f ?_; omega) | (simp only [decide_true, Bool.and_self, Bool.not_true]))) | refine Fork.dec (fun h => ?_) (fun h => ?_) | refine Fork.ndec (fun h => ?_) (fun h => ?_) | refine Fork.mk (fun h => ?_) (fun h => ?_)) | (refine OpsL.same ?_; first | refine Ops.pc rfl (Fits.eq rfl) C15 rfl ?_ | (refine Ops.pcp rfl (Fits.eq rfl) C15 rfl ?_ ?_; (· (first | trivial | omega | ((try simp only [R64, true_and, and_true, Int.toNat_natCast, List.length_cons, List.length_nil]); omega)))) | refine Ops.pc rfl (Fits.eq rfl) C28 rfl ?_ | (refine Ops.pcp rfl (Fits.eq rfl) C28 rfl ?_ ?_; (· (first | trivial | omega | ((try simp only [R64, true_and, and_true, Int.toNat_natCast, List.length_cons, List.length_nil]); omega)))) | refine Ops.pc rfl (Fits.eq rfl) c1 rfl ?_ | (refine Ops.pcp rfl (Fits.eq rfl) c1 rfl ?_ ?_; (· (first | trivial | omega | ((try simp only [R64, true_and, and_true, Int.toNat_natCast, List.length_cons, List.length_nil]); omega)))) ) | (refine OpsDL.same ?_; first | refine OpsD.pc rfl (Fits.eq rfl) C15 rfl ?_ | (refine OpsD.pcp rfl (Fits.eq rfl) C15 rfl ?_ ?_; (· (first | trivial | omega | ((try simp only [R64, true_and, and_true, Int.toNat_natCast, List.length_cons, List.length_nil]); omega)))) | refine OpsD.pc rfl (Fits.eq rfl) C28 rfl ?_ | (refine OpsD.pcp rfl (Fits.eq rfl) C28 rfl ?_ ?_; (· (first | trivial | omega | ((try simp only [R64, true_and, and_true, Int.toNat_natCast, List.length_cons, List.length_nil]); omega)))) | refine OpsD.pc rfl (Fits.eq rfl) c1 rfl ?_ | (refine OpsD.pcp rfl (Fits.eq rfl) c1 rfl ?_ ?_; (· (first | trivial | omega | ((try simp only [R64, true_and, and_true, Int.toNat_natCast, List.length_cons, List.length_nil]); omega)))) ) | refine MvQ.stay ?_ | refine Owe.mk ?_ ?_)
      all_goals (refine RetQ.plain (Nat.le_refl _) (by first | exact .inr rfl | exact .inl rfl) rfl (by (simp only [cloL, clo, cloC, cloCs, and_self])) ?_; (repeat' first | exact True.intro | exact VEq.refl _ | exact EEq.same _ | exact CEq.refl _ | exact VEq.int rfl | apply VEq.tru | apply VEq.fls | apply VEq.bool | apply VEq.int | exact VEq.nill rfl | exact VEq.zl rfl | exact VEq.nil | exact VEq.li_1 | exact VEq.li_2 | exact VEq.li_3 | exact VEq.li_4 | exact VEq.lp_1 | exact VEq.lp_2 | exact VEq.lp_3 | exact VEq.lp_4 | exact VEq.lt_1 | exact VEq.lt_2 | exact VEq.lt_3 | apply VEq.ms | apply VEq.sll | apply VEq.aggs | apply EEq.boxs | apply EEq.app1 | apply EEq.app2 | apply EEq.app3 | apply CEq.ms | apply CEq.int | apply CEq.sll | exact CEq.nill rfl | apply And.intro | exact rfl))
  · refine PFD.of (vs := [_]) fn11 rfl (by (simp only [cloL, clo, cloC, cloCs, and_self])) ?_
    (repeat' first | (refine Owe.mk ?_ ?_; (· (first | trivial | omega | ((try simp only [R64, true_and, and_true, Int.toNat_natCast, List.length_cons, List.length_nil]); omega)))) | (refine Fork.same ?_; first | (refine Fork.yes ?_ ?_; (· first | exact rfl | (refine decide_eq_true ?_; omega) | (refine nd_t ?_; omega) | (simp only [decide_true, Bool.and_self, Bool.not_false]))) | (refine Fork.no ?_ ?_; (· first | exact rfl | (refine decide_eq_false ?_; omega) | (refine nd_f ?_; omega) | (simp only [decide_true, Bool.and_self, Bool.not_true]))) | refine Fork.dec (fun h => ?_) (fun h => ?_) | refine Fork.ndec (fun h => ?_) (fun h => ?_) | refine Fork.mk (fun h => ?_) (fun h => ?_)) | (refine OpsL.same ?_; first | refine Ops.pc rfl (Fits.eq rfl) C15 rfl ?_ | (refine Ops.pcp rfl (Fits.eq rfl) C15 rfl ?_ ?_; (· (first | trivial | omega | ((try simp only [R64, true_and, and_true, Int.toNat_natCast, List.length_cons, List.length_nil]); omega)))) | refine Ops.pc rfl (Fits.eq rfl) C28 rfl ?_ | (refine Ops.pcp rfl (Fits.eq rfl) C28 rfl ?_ ?_; (· (first | trivial | omega | ((try simp only [R64, true_and, and_true, Int.toNat_natCast, List.length_cons, List.length_nil]); omega)))) ) | (refine OpsDL.same ?_; first | refine OpsD.pc rfl (Fits.eq rfl) C15 rfl ?_ | (refine OpsD.pcp rfl (Fits.eq rfl) C15 rfl ?_ ?_; (· (first | trivial | omega | ((try simp only [R64, true_and, and_true, Int.toNat_natCast, List.length_cons, List.length_nil]); omega)))) | refine OpsD.pc rfl (Fits.eq rfl) C28 rfl ?_ | (refine OpsD.pcp rfl (Fits.eq rfl) C28 rfl ?_ ?_; (· (first | trivial | omega | ((try simp only [R64, true_and, and_true, Int.toNat_natCast, List.length_cons, List.length_nil]); omega)))) ) | refine MvQ.stay ?_ | refine Owe.mk ?_ ?_)
    all_goals (refine RetQ.plain (Nat.le_refl _) (by first | exact .inr rfl | exact .inl rfl) rfl (by (simp only [cloL, clo, cloC, cloCs, and_self])) ?_; (repeat' first | exact True.intro | exact VEq.refl _ | exact EEq.same _ | exact CEq.refl _ | exact VEq.int rfl | apply VEq.tru | apply VEq.fls | apply VEq.bool | apply VEq.int | exact VEq.nill rfl | exact VEq.zl rfl | exact VEq.nil | exact VEq.li_1 | exact VEq.li_2 | exact VEq.li_3 | exact VEq.li_4 | exact VEq.lp_1 | exact VEq.lp_2 | exact VEq.lp_3 | exact VEq.lp_4 | exact VEq.lt_1 | exact VEq.lt_2 | exact VEq.lt_3 | apply VEq.ms | apply VEq.sll | apply VEq.aggs | apply EEq.boxs | apply EEq.app1 | apply EEq.app2 | apply EEq.app3 | apply CEq.ms | apply CEq.int | apply CEq.sll | exact CEq.nill rfl | apply And.intro | exact rfl))
end Go.Pw

namespace Go.Proofs.Ytkoohllimmkmoaa
open Go.ChangeShapes Go.WideShapes Go.ChangeAt Go.RowKit Go.Pw
theorem Try.own : ownKnob Try.prog.godebug = none := by kernel_rfl
theorem Try.laidOut : laidOutB Try.prog = true := by kernel_rfl
theorem shapes : shAll Try.prog [49, 72, 36] = some [(true, [.int .i64, .int .i64, .sl [.int .i64, .int .i64, .int .i64]]), (false, [.sl [.int .i64, .int .i64]]), (false, [.sl [.int .i64]])] := by kernel_rfl
theorem law (args : List V) (h : ArgOk [(true, [.int .i64, .int .i64, .sl [.int .i64, .int .i64, .int .i64]]), (false, [.sl [.int .i64, .int .i64]]), (false, [.sl [.int .i64]])] args) : PFD Try.prog 11 args (vbl true) := by
  match args, h with
  | [v0, v1, v2], ⟨h0, h1, h2, _⟩ =>
    obtain ⟨x0, z0, l0, r0, q0⟩ := arg_line h0
    obtain ⟨l1, r1, q1⟩ := arg_prs h1
    obtain ⟨l2, r2, q2⟩ := arg_ints h2
    exact PFD.ri (C11 (w64s_of q2.2)) (.cons r0 (.cons r1 (.cons r2 .nil)))
set_option maxRecDepth 100000 in
theorem lifted (os : Os) (started : os.Started) (H : Type) (enc : TypeId × Value → H) :
    ReturnsInHanded {} Try.checked os 11 .any (Rows.cableEverySpec.pre6 enc Try.prog Try.f11 Rows.cableEveryRow.domain false) (Rows.cableEverySpec.post enc Try.prog Try.f11 false true false false) := by
  refine returnsInHanded_of_change (C := Try.checked) Try.own started (by kernel_rfl) Try.func11
    (ChangeSpec.witness6 (enc := enc) (C := Try.checked) false ⟨#[], #[.agg #[.int .i64 0, .int .i64 0, .slice none 0 0], .slice none 0 0, .slice none 0 0], []⟩ 8 (by kernel_rfl) (by kernel_rfl) (by kernel_rfl) (by kernel_rfl)) ?_
  intro W base args ds gs before hval0 hW hcnd _
  exact law_calls (P := Try.prog) (F := Try.f11) (tb := 4) Try.laidOut (by rw [Try.params11]; exact shapes) rfl (fun ds hl => by
    rw [Try.params11] at hl
    match ds, hl with
    | [d0, d1, d2], _ => rfl) (by kernel_rfl) Try.underlying4 law W base args ds gs before hval0 hW
theorem row_holds : Rows.CableEverySaid :=
  OpenClaim.holds_of_wide 11 Try.f11 rfl rfl rfl rfl rfl rfl rfl ⟨rfl, rfl, rfl, rfl, rfl⟩ rfl rfl rfl rfl rfl (by kernel_rfl) Try.func11 (by kernel_rfl)
    (of_decide_eq_true (by kernel_rfl)) (by unfold Func.isWrapper; rw [if_neg (by decide +kernel)]; exact ⟨rfl, rfl⟩)
    (fun os started H enc _ => lifted os started H enc)
end Go.Proofs.Ytkoohllimmkmoaa
