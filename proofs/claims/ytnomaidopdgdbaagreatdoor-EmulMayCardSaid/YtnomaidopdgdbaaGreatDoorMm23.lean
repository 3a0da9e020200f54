/- Texts of this claim, merged by a program of this claim: KEmul. -/
import Derived.Test.YtnomaidopdgdbaaGreatDoorMm5
namespace Go.Proofs.YtnomaidopdgdbaaGreatDoor
set_option linter.unusedVariables false
set_option linter.unusedSimpArgs false
section
open Go.RowKit
set_option maxRecDepth 100000
def z55_4 : LC := .seq (.stm [4] [sd 4 (.mov (.c .nils))]) .ret
def z55_9 : LC := .seq (.stm [4] [sd 27 (.mov 5), sd 4 (.mov 27)]) .ret
def z55_8 : LC := .seq (.stm [5] [sd 21 (.mov 0), sd 22 (.mov 0), sd 23 (.nilck 21), sd 24 (.faddr 23 1), sn (.store 1 24 (ki 1)), sd 25 (.nilck 22), sd 26 (.faddr 25 3), sn (.store 1 26 (.c (.int .u8 0)))]) z55_9
def z55_7 : LC := .seq (.stm [0, 5] [sd 12 (.mov 0), sd 13 (.nilck 12), sd 14 (.faddr 13 0), sd 15 (.load false 1 14), sd 16 (.call 116 [15]), sd 17 (.call 115 [16]), sd 18 (.mov 0), sd 19 (.call 117 [18]), sd 20 (.app (.pair (.int .i64) (.pair (.int .i32) (.pair (.int .u8) (.pair (.int .u8) (.pair (.rows (.int .i64)) (.rows (.int .u8))))))) 17 19), sd 5 (.mov 20)]) z55_8
def z55_12 : LC := .seq (.stm [4] [sd 34 (.mov 0), sd 35 (.mov 1), sd 36 (.call 118 [34, 35]), sd 4 (.mov 36)]) .ret
def z55_16 : LC := .seq (.stm [4] [sd 4 (.mov (.c .nils))]) .ret
def z55_15 : LC := .seq (.stm [] [sd 44 (.mov 0), sd 45 (.nilck 44), sd 46 (.faddr 45 1), sn (.store 1 46 (ki 0))]) z55_16
def z55_19 : LC := .seq (.stm [4] [sd 53 (.mov 0), sd 54 (.mov 1), sd 55 (.call 119 [53, 54]), sd 4 (.mov 55)]) .ret
def z55_22 : LC := .seq (.stm [4] [sd 4 (.mov (.c .nils))]) .ret
def z55_25 : LC := .seq (.stm [4] [sd 69 (.mov 1), sd 70 (.build [.int .i64 0, .int .i32 0, .int .u8 0, .int .u8 0, .vec (.int .i64) [], .vec (.int .u8) []] [(0, 1, (ki 2)), (3, 1, 69)]), sd 71 (.bslice (.pair (.int .i64) (.pair (.int .i32) (.pair (.int .u8) (.pair (.int .u8) (.pair (.rows (.int .i64)) (.rows (.int .u8))))))) [70]), sd 4 (.mov 71)]) .ret
def z55_29 : LC := .seq (.stm [4] [sd 78 (.mov 0), sd 79 (.mov 1), sd 80 (.call 118 [78, 79]), sd 4 (.mov 80)]) .ret
def z55_28 : LC := .seq (.stm [0, 1] [sd 75 (.mov 0), sd 76 (.nilck 75), sd 77 (.faddr 76 1), sn (.store 1 77 (ki 0))]) z55_29
def z55_27 : LC := .cond 72 z55_28 .skip
def z55_26 : LC := .seq (.stm [0, 1, 72] [sd 73 (.mov 1), sd 74 (.cmp .geq 73 (.c (.int .u8 128))), sd 72 (.mov 74)]) z55_27
def z55_24 : LC := .cond 66 z55_25 z55_26
def z55_23 : LC := .seq (.stm [0, 1, 66] [sd 67 (.mov 1), sd 68 (.cmp .lss 67 (.c (.int .u8 32))), sd 66 (.mov 68)]) z55_24
def z55_21 : LC := .cond 56 z55_22 z55_23
def z55_20 : LC := .seq (.stm [0, 1, 56] [sd 57 (.mov 0), sd 58 (.nilck 57), sd 59 (.faddr 58 1), sd 60 (.load false 1 59), sd 61 (.cmp .eql 60 (ki 6)), sd 62 (.mov 61), .g 62 false [sd 63 (.mov 1), sd 64 (.cmp .eql 63 (.c (.int .u8 127)))] 65 (.c (.bool true)) 64, sd 56 (.mov 65)]) z55_21
def z55_18 : LC := .cond 47 z55_19 z55_20
def z55_17 : LC := .seq (.stm [0, 1, 47] [sd 48 (.mov 0), sd 49 (.nilck 48), sd 50 (.faddr 49 1), sd 51 (.load false 1 50), sd 52 (.cmp .eql 51 (ki 5)), sd 47 (.mov 52)]) z55_18
def z55_14 : LC := .cond 37 z55_15 z55_17
def z55_13 : LC := .seq (.stm [0, 1, 37] [sd 38 (.mov 1), sd 39 (.cmp .eql 38 (.c (.int .u8 24))), sd 40 (.mov 39), .g 40 false [sd 41 (.mov 1), sd 42 (.cmp .eql 41 (.c (.int .u8 26)))] 43 (.c (.bool true)) 42, sd 37 (.mov 43)]) z55_14
def z55_11 : LC := .cond 28 z55_12 z55_13
def z55_10 : LC := .seq (.stm [0, 1, 28] [sd 29 (.mov 0), sd 30 (.nilck 29), sd 31 (.faddr 30 1), sd 32 (.load false 1 31), sd 33 (.cmp .eql 32 (ki 0)), sd 28 (.mov 33)]) z55_11
def z55_6 : LC := .cond 9 z55_7 z55_10
def z55_5 : LC := .seq (.stm [0, 1, 9] [sd 10 (.mov 1), sd 11 (.cmp .eql 10 (.c (.int .u8 27))), sd 9 (.mov 11)]) z55_6
def z55_3 : LC := .cond 6 z55_4 z55_5
def z55_2 : LC := .seq (.stm [0, 1, 6] [sd 7 (.mov 0), sd 8 (.cmpN 0 false 7), sd 6 (.mov 8)]) z55_3
def z55_1 : LC := .block 0 z55_2
def z55_30 : LC := .seq (.stm [4] [sd 81 (.mov 0), sd 82 (.mov 1), sd 83 (.call 120 [81, 82]), sd 4 (.mov 83)]) .ret
def z55_0 : LC := .seq z55_1 z55_30
def z55 : LC := .seq (.stm [0, 1] [sd 4 (.mov (.c .nils))]) z55_0
theorem k_parse_Parser_Feed : chkFn Tryz.prog eqs0 59 z55 [.t 4] 84 = true := by kernel_rfl
def z56_4 : LC := .seq (.stm [4] [sd 8 (.mov 0), sd 9 (.nilck 8), sd 10 (.faddr 9 0), sd 11 (.load false 1 10), sd 12 (.call 116 [11]), sd 13 (.call 115 [12]), sd 14 (.mov 1), sd 15 (.build [.int .i64 0, .int .i32 0, .int .u8 0, .int .u8 0, .vec (.int .i64) [], .vec (.int .u8) []] [(0, 1, (ki 2)), (3, 1, 14)]), sd 16 (.bslice (.pair (.int .i64) (.pair (.int .i32) (.pair (.int .u8) (.pair (.int .u8) (.pair (.rows (.int .i64)) (.rows (.int .u8))))))) [15]), sd 17 (.app (.pair (.int .i64) (.pair (.int .i32) (.pair (.int .u8) (.pair (.int .u8) (.pair (.rows (.int .i64)) (.rows (.int .u8))))))) 13 16), sd 4 (.mov 17)]) .ret
def z56_7 : LC := .seq (.stm [4] [sd 21 (.mov 0), sd 22 (.nilck 21), sd 23 (.faddr 22 0), sd 24 (.load false 1 23), sd 25 (.call 116 [24]), sd 26 (.call 115 [25]), sd 4 (.mov 26)]) .ret
def z56_6 : LC := .cond 18 z56_7 .skip
def z56_5 : LC := .seq (.stm [0, 1, 18] [sd 19 (.mov 1), sd 20 (.cmp .eql 19 (.c (.int .u8 127))), sd 18 (.mov 20)]) z56_6
def z56_3 : LC := .cond 5 z56_4 z56_5
def z56_2 : LC := .seq (.stm [0, 1, 5] [sd 6 (.mov 1), sd 7 (.cmp .lss 6 (.c (.int .u8 32))), sd 5 (.mov 7)]) z56_3
def z56_1 : LC := .block 0 z56_2
def z56_8 : LC := .seq (.stm [4] [sd 27 (.mov 0), sd 28 (.nilck 27), sd 29 (.faddr 28 0), sd 30 (.load false 1 29), sd 31 (.mov 1), sd 32 (.call 151 [30, 31]), sd 33 (.call 115 [32]), sd 4 (.mov 33)]) .ret
def z56_0 : LC := .seq z56_1 z56_8
def z56 : LC := .seq (.stm [0, 1] [sd 4 (.mov (.c .nils))]) z56_0
theorem k_parse_Parser_plain : chkFn Tryz.prog eqs0 118 z56 [.t 4] 34 = true := by kernel_rfl
def z57_6 : LC := .seq (.stm [4] [sd 24 (.mov 5), sd 4 (.mov 24)]) .ret
def z57_5 : LC := .seq (.stm [5] [sd 21 (.mov 0), sd 22 (.nilck 21), sd 23 (.faddr 22 1), sn (.store 1 23 (ki 0))]) z57_6
def z57_4 : LC := .seq (.stm [0, 5] [sd 19 (.mov 0), sd 20 (.call 117 [19]), sd 5 (.mov 20)]) z57_5
def z57_10 : LC := .cond 28 (.stm [] [sd 35 (.mov 0), sd 36 (.nilck 35), sd 37 (.faddr 36 7), sn (.store 1 37 (.c (.bool true)))]) (.stm [] [sd 6 (.mov 0), sd 7 (.mov 0), sd 8 (.nilck 7), sd 9 (.faddr 8 6), sd 10 (.load false 1 9), sd 11 (.mov 1), sd 12 (.bslice (.int .u8) [11]), sd 13 (.app (.int .u8) 10 12), sd 14 (.nilck 6), sd 15 (.faddr 14 6), sn (.store 1 15 13)])
def z57_9 : LC := .seq (.stm [0, 1, 28] [sd 29 (.mov 0), sd 30 (.nilck 29), sd 31 (.faddr 30 6), sd 32 (.load false 1 31), sd 33 (.len false 32), sd 34 (.cmp .eql 33 (ki 256)), sd 28 (.mov 34)]) z57_10
def z57_8 : LC := .cond 25 .skip z57_9
def z57_7 : LC := .seq (.stm [0, 1, 25] [sd 26 (.mov 1), sd 27 (.cmp .lss 26 (.c (.int .u8 32))), sd 25 (.mov 27)]) z57_8
def z57_3 : LC := .cond 16 z57_4 z57_7
def z57_2 : LC := .seq (.stm [0, 1, 16] [sd 17 (.mov 1), sd 18 (.cmp .eql 17 (.c (.int .u8 7))), sd 16 (.mov 18)]) z57_3
def z57_1 : LC := .block 0 z57_2
def z57_11 : LC := .seq (.stm [4] [sd 4 (.mov (.c .nils))]) .ret
def z57_0 : LC := .seq z57_1 z57_11
def z57 : LC := .seq (.stm [0, 1] [sd 4 (.mov (.c .nils))]) z57_0
theorem k_parse_Parser_more : chkFn Tryz.prog eqs0 119 z57 [.t 4] 38 = true := by kernel_rfl
def z58_3 : LC := .seq (.stm [2] [sd 2 (.mov (.c .nils))]) .ret
def z58_2 : LC := .cond 13 z58_3 .skip
def z58_1 : LC := .seq (.stm [0, 13] [sd 3 (.mov 0), sd 4 (.nilck 3), sd 5 (.faddr 4 1), sd 6 (.load false 1 5), sd 7 (.cmp .neq 6 (ki 5)), sd 8 (.mov 7), .g 8 false [sd 9 (.mov 0), sd 10 (.nilck 9), sd 11 (.faddr 10 7), sd 12 (.load false 1 11)] 13 (.c (.bool true)) 12]) z58_2
def z58_4 : LC := .seq (.stm [2] [sd 14 (.mov 0), sd 15 (.nilck 14), sd 16 (.faddr 15 6), sd 17 (.load false 1 16), sd 18 (.app (.int .u8) (.c .nils) 17), sd 19 (.build [.int .i64 0, .int .i32 0, .int .u8 0, .int .u8 0, .vec (.int .i64) [], .vec (.int .u8) []] [(0, 1, (ki 5)), (5, 1, 18)]), sd 20 (.bslice (.pair (.int .i64) (.pair (.int .i32) (.pair (.int .u8) (.pair (.int .u8) (.pair (.rows (.int .i64)) (.rows (.int .u8))))))) [19]), sd 2 (.mov 20)]) .ret
def z58_0 : LC := .seq z58_1 z58_4
def z58 : LC := .seq (.stm [0] [sd 2 (.mov (.c .nils))]) z58_0
theorem k_parse_Parser_osc : chkFn Tryz.prog eqs0 117 z58 [.t 2] 21 = true := by kernel_rfl
def z59_7 : LC := .cond 9 .skip (.exit 0)
def z59_10 : LC := .seq (.stm [3, 5, 6, 7, 8] [sd 10 (.ixS 1 6 8), sd 11 (.load false 1 10), sd 5 (.mov 11)]) (.stm [3, 6, 7, 8] [sd 12 (.mov 3), sd 13 (.mov 5), sd 14 (.build [.int .i64 0, .int .i32 0, .int .u8 0, .int .u8 0, .vec (.int .i64) [], .vec (.int .u8) []] [(0, 1, (ki 1)), (1, 1, 13)]), sd 15 (.bslice (.pair (.int .i64) (.pair (.int .i32) (.pair (.int .u8) (.pair (.int .u8) (.pair (.rows (.int .i64)) (.rows (.int .u8))))))) [14]), sd 16 (.app (.pair (.int .i64) (.pair (.int .i32) (.pair (.int .u8) (.pair (.int .u8) (.pair (.rows (.int .i64)) (.rows (.int .u8))))))) 12 15), sd 3 (.mov 16)])
def z59_9 : LC := .block 1 z59_10
def z59_8 : LC := .seq z59_9 (.stm [3, 6, 7, 8] [sd 17 (.ari .add false 8 (ki 1)), sd 8 (.mov 17)])
def z59_6 : LC := .seq z59_7 z59_8
def z59_5 : LC := .seq (.stm [3, 6, 7, 8, 9] [sd 9 (.cmp .lss 8 7)]) z59_6
def z59_4 : LC := .loop z59_5
def z59_3 : LC := .block 0 z59_4
def z59_2 : LC := .seq (.stm [3, 6, 7, 8] [sd 6 (.mov 0), sd 7 (.len false 6), sd 8 (.mov (ki 0))]) z59_3
def z59_11 : LC := .seq (.stm [2] [sd 18 (.mov 3), sd 2 (.mov 18)]) .ret
def z59_1 : LC := .seq z59_2 z59_11
def z59_0 : LC := .seq (.stm [0, 3] [sd 3 (.mov (.c .nils))]) z59_1
def z59 : LC := .seq (.stm [0] [sd 2 (.mov (.c .nils))]) z59_0
theorem k_parse_prints : chkFn Tryz.prog eqs0 115 z59 [.t 2] 19 = true := by kernel_rfl
def z60_4 : LC := .seq (.stm [4] [sd 4 (.mov (.c .nils))]) .ret
def z60_7 : LC := .seq (.stm [4] [sd 14 (.mov 0), sd 15 (.mov 1), sd 16 (.call 197 [14, 15]), sd 4 (.mov 16)]) .ret
def z60_10 : LC := .seq (.stm [4] [sd 32 (.bslice (.int .i32) [(.c (.int .i32 65533))]), sd 33 (.mov 0), sd 34 (.mov 1), sd 35 (.call 197 [33, 34]), sd 36 (.app (.int .i32) 32 35), sd 4 (.mov 36)]) .ret
def z60_9 : LC := .cond 17 z60_10 .skip
def z60_8 : LC := .seq (.stm [0, 1, 17] [sd 18 (.mov 1), sd 19 (.mov 0), sd 20 (.nilck 19), sd 21 (.faddr 20 2), sd 22 (.load false 1 21), sd 23 (.cmp .lss 18 22), sd 24 (.mov 23), .g 24 false [sd 25 (.mov 1), sd 26 (.mov 0), sd 27 (.nilck 26), sd 28 (.faddr 27 3), sd 29 (.load false 1 28), sd 30 (.cmp .gtr 25 29)] 31 (.c (.bool true)) 30, sd 17 (.mov 31)]) z60_9
def z60_6 : LC := .cond 8 z60_7 z60_8
def z60_5 : LC := .seq (.stm [0, 1, 8] [sd 9 (.mov 0), sd 10 (.nilck 9), sd 11 (.faddr 10 0), sd 12 (.load false 1 11), sd 13 (.cmp .eql 12 (ki 0)), sd 8 (.mov 13)]) z60_6
def z60_3 : LC := .cond 5 z60_4 z60_5
def z60_2 : LC := .seq (.stm [0, 1, 5] [sd 6 (.mov 0), sd 7 (.cmpN 0 false 6), sd 5 (.mov 7)]) z60_3
def z60_1 : LC := .block 0 z60_2
def z60_16 : LC := .seq (.stm [4] [sd 67 (.mov 0), sd 68 (.nilck 67), sd 69 (.faddr 68 1), sd 70 (.load false 1 69), sd 71 (.bslice (.int .i32) [70]), sd 4 (.mov 71)]) .ret
def z60_15 : LC := .cond 66 z60_16 .skip
def z60_14 : LC := .seq (.stm [0, 66] [sd 62 (.mov 0), sd 63 (.nilck 62), sd 64 (.faddr 63 0), sd 65 (.load false 1 64), sd 66 (.cmp .eql 65 (ki 0))]) z60_15
def z60_17 : LC := .seq (.stm [4] [sd 4 (.mov (.c .nils))]) .ret
def z60_13 : LC := .seq z60_14 z60_17
def z60_12 : LC := .seq (.stm [0] [sd 44 (.mov 0), sd 45 (.mov 0), sd 46 (.mov 0), sd 47 (.mov 0), sd 48 (.nilck 47), sd 49 (.faddr 48 1), sd 50 (.load false 1 49), sd 51 (.ari .shl true 50 (.c (.int .u64 6))), sd 52 (.mov 1), sd 53 (.ari .and false 52 (.c (.int .u8 63))), sd 54 (.conv .i32 false 53), sd 55 (.ari .or false 51 54), sd 56 (.nilck 44), sd 57 (.faddr 56 1), sn (.store 1 57 55), sd 58 (.nilck 45), sd 59 (.faddr 58 2), sn (.store 1 59 (.c (.int .u8 128))), sd 60 (.nilck 46), sd 61 (.faddr 60 3), sn (.store 1 61 (.c (.int .u8 191)))]) z60_13
def z60_11 : LC := .seq (.stm [0, 1] [sd 37 (.mov 0), sd 38 (.nilck 37), sd 39 (.faddr 38 0), sd 40 (.load false 1 39), sd 41 (.ari .sub false 40 (ki 1)), sd 42 (.nilck 37), sd 43 (.faddr 42 0), sn (.store 1 43 41)]) z60_12
def z60_0 : LC := .seq z60_1 z60_11
def z60 : LC := .seq (.stm [0, 1] [sd 4 (.mov (.c .nils))]) z60_0
theorem k_utf_Decoder_Feed : chkFn Tryz.prog eqs0 151 z60 [.t 4] 72 = true := by kernel_rfl
def z61_5 : LC := .seq (.stm [4] [sd 21 (.mov 1), sd 22 (.conv .i32 false 21), sd 23 (.bslice (.int .i32) [22]), sd 4 (.mov 23)]) .ret
def z61_12 : LC := .seq (.stm [4] [sd 17 (.bslice (.int .i32) [(.c (.int .i32 65533))]), sd 4 (.mov 17)]) .ret
def z61_11 : LC := .cond 56 (.stm [0, 1] [sd 63 (.mov 0), sd 64 (.mov 0), sd 65 (.mov 1), sd 66 (.ari .and false 65 (.c (.int .u8 7))), sd 67 (.conv .i32 false 66), sd 68 (.nilck 63), sd 69 (.faddr 68 0), sn (.store 1 69 (ki 3)), sd 70 (.nilck 64), sd 71 (.faddr 70 1), sn (.store 1 71 67)]) z61_12
def z61_10 : LC := .seq (.stm [0, 1, 56] [sd 57 (.mov 1), sd 58 (.cmp .geq 57 (.c (.int .u8 240))), sd 59 (.mov 58), .g 59 true [sd 60 (.mov 1), sd 61 (.cmp .leq 60 (.c (.int .u8 244)))] 62 61 (.c (.bool false)), sd 56 (.mov 62)]) z61_11
def z61_9 : LC := .cond 40 (.stm [0, 1] [sd 47 (.mov 0), sd 48 (.mov 0), sd 49 (.mov 1), sd 50 (.ari .and false 49 (.c (.int .u8 15))), sd 51 (.conv .i32 false 50), sd 52 (.nilck 47), sd 53 (.faddr 52 0), sn (.store 1 53 (ki 2)), sd 54 (.nilck 48), sd 55 (.faddr 54 1), sn (.store 1 55 51)]) z61_10
def z61_8 : LC := .seq (.stm [0, 1, 40] [sd 41 (.mov 1), sd 42 (.cmp .geq 41 (.c (.int .u8 224))), sd 43 (.mov 42), .g 43 true [sd 44 (.mov 1), sd 45 (.cmp .leq 44 (.c (.int .u8 239)))] 46 45 (.c (.bool false)), sd 40 (.mov 46)]) z61_9
def z61_7 : LC := .cond 24 (.stm [0, 1] [sd 31 (.mov 0), sd 32 (.mov 0), sd 33 (.mov 1), sd 34 (.ari .and false 33 (.c (.int .u8 31))), sd 35 (.conv .i32 false 34), sd 36 (.nilck 31), sd 37 (.faddr 36 0), sn (.store 1 37 (ki 1)), sd 38 (.nilck 32), sd 39 (.faddr 38 1), sn (.store 1 39 35)]) z61_8
def z61_6 : LC := .seq (.stm [0, 1, 24] [sd 25 (.mov 1), sd 26 (.cmp .geq 25 (.c (.int .u8 194))), sd 27 (.mov 26), .g 27 true [sd 28 (.mov 1), sd 29 (.cmp .leq 28 (.c (.int .u8 223)))] 30 29 (.c (.bool false)), sd 24 (.mov 30)]) z61_7
def z61_4 : LC := .cond 18 z61_5 z61_6
def z61_3 : LC := .seq (.stm [0, 1, 18] [sd 19 (.mov 1), sd 20 (.cmp .lss 19 (.c (.int .u8 128))), sd 18 (.mov 20)]) z61_4
def z61_2 : LC := .block 0 z61_3
def z61_23 : LC := .cond 88 (.stm [] [sd 90 (.mov 0), sd 91 (.nilck 90), sd 92 (.faddr 91 3), sn (.store 1 92 (.c (.int .u8 143)))]) .skip
def z61_22 : LC := .seq (.stm [0, 88] [sd 89 (.cmp .eql 72 (.c (.int .u8 244))), sd 88 (.mov 89)]) z61_23
def z61_21 : LC := .cond 83 (.stm [] [sd 85 (.mov 0), sd 86 (.nilck 85), sd 87 (.faddr 86 2), sn (.store 1 87 (.c (.int .u8 144)))]) z61_22
def z61_20 : LC := .seq (.stm [0, 72, 83] [sd 84 (.cmp .eql 72 (.c (.int .u8 240))), sd 83 (.mov 84)]) z61_21
def z61_19 : LC := .cond 78 (.stm [] [sd 80 (.mov 0), sd 81 (.nilck 80), sd 82 (.faddr 81 3), sn (.store 1 82 (.c (.int .u8 159)))]) z61_20
def z61_18 : LC := .seq (.stm [0, 72, 78] [sd 79 (.cmp .eql 72 (.c (.int .u8 237))), sd 78 (.mov 79)]) z61_19
def z61_17 : LC := .cond 73 (.stm [] [sd 75 (.mov 0), sd 76 (.nilck 75), sd 77 (.faddr 76 2), sn (.store 1 77 (.c (.int .u8 160)))]) z61_18
def z61_16 : LC := .seq (.stm [0, 72, 73] [sd 74 (.cmp .eql 72 (.c (.int .u8 224))), sd 73 (.mov 74)]) z61_17
def z61_15 : LC := .block 1 z61_16
def z61_14 : LC := .seq (.stm [0, 72] [sd 72 (.mov 1)]) z61_15
def z61_24 : LC := .seq (.stm [4] [sd 4 (.mov (.c .nils))]) .ret
def z61_13 : LC := .seq z61_14 z61_24
def z61_1 : LC := .seq z61_2 z61_13
def z61_0 : LC := .seq (.stm [0, 1] [sd 5 (.mov 0), sd 6 (.mov 0), sd 7 (.mov 0), sd 8 (.mov 0), sd 9 (.nilck 5), sd 10 (.faddr 9 0), sn (.store 1 10 (ki 0)), sd 11 (.nilck 6), sd 12 (.faddr 11 1), sn (.store 1 12 (.c (.int .i32 0))), sd 13 (.nilck 7), sd 14 (.faddr 13 2), sn (.store 1 14 (.c (.int .u8 128))), sd 15 (.nilck 8), sd 16 (.faddr 15 3), sn (.store 1 16 (.c (.int .u8 191)))]) z61_1
def z61 : LC := .seq (.stm [0, 1] [sd 4 (.mov (.c .nils))]) z61_0
theorem k_utf_Decoder_begin : chkFn Tryz.prog eqs0 197 z61 [.t 4] 93 = true := by kernel_rfl
def z62_3 : LC := .seq (.stm [2] [sd 2 (.mov (.c .nils))]) .ret
def z62_2 : LC := .cond 11 z62_3 .skip
def z62_1 : LC := .seq (.stm [0, 11] [sd 3 (.mov 0), sd 4 (.cmpN 0 false 3), sd 5 (.mov 4), .g 5 false [sd 6 (.mov 0), sd 7 (.nilck 6), sd 8 (.faddr 7 0), sd 9 (.load false 1 8), sd 10 (.cmp .eql 9 (ki 0))] 11 (.c (.bool true)) 10]) z62_2
def z62_5 : LC := .seq (.stm [2] [sd 15 (.bslice (.int .i32) [(.c (.int .i32 65533))]), sd 2 (.mov 15)]) .ret
def z62_4 : LC := .seq (.stm [] [sd 12 (.mov 0), sd 13 (.nilck 12), sd 14 (.faddr 13 0), sn (.store 1 14 (ki 0))]) z62_5
def z62_0 : LC := .seq z62_1 z62_4
def z62 : LC := .seq (.stm [0] [sd 2 (.mov (.c .nils))]) z62_0
theorem k_utf_Decoder_End : chkFn Tryz.prog eqs0 116 z62 [.t 2] 16 = true := by kernel_rfl
def z63_1 : LC := .cond 9 .ret .skip
def z63_0 : LC := .seq (.stm [0, 1, 9] [sd 8 (.mov 0), sd 9 (.cmpN 0 false 8)]) z63_1
def z63_7 : LC := .cond 13 .skip (.exit 0)
def z63_16 : LC := .cond 24 .skip (.exit 2)
def z63_19 : LC := .seq (.stm [0, 7, 10, 11, 12, 21, 22, 23] [sd 25 (.ixS 6 21 23), sd 26 (.load true 6 25), sd 7 (.zero [.int .i64 0, .int .i32 0, .int .u8 0, .int .u8 0, .vec (.int .i64) [], .vec (.int .u8) []]), sn (.store 6 7 26)]) (.stm [0, 10, 11, 12, 21, 22, 23] [sd 27 (.mov 0), sd 28 (.load true 6 7), sd 29 (.call 12 [27, 28])])
def z63_18 : LC := .block 3 z63_19
def z63_17 : LC := .seq z63_18 (.stm [0, 10, 11, 12, 21, 22, 23] [sd 30 (.ari .add false 23 (ki 1)), sd 23 (.mov 30)])
def z63_15 : LC := .seq z63_16 z63_17
def z63_14 : LC := .seq (.stm [0, 10, 11, 12, 21, 22, 23, 24] [sd 24 (.cmp .lss 23 22)]) z63_15
def z63_13 : LC := .loop z63_14
def z63_12 : LC := .block 2 z63_13
def z63_11 : LC := .seq (.stm [0, 10, 11, 12, 21, 22, 23] [sd 16 (.mov 0), sd 17 (.nilck 16), sd 18 (.faddr 17 113), sd 19 (.load false 1 18), sd 20 (.mov 5), sd 21 (.call 59 [19, 20]), sd 22 (.len false 21), sd 23 (.mov (ki 0))]) z63_12
def z63_10 : LC := .seq (.stm [0, 5, 10, 11, 12] [sd 14 (.ixS 1 10 12), sd 15 (.load false 1 14), sd 5 (.mov 15)]) z63_11
def z63_9 : LC := .block 1 z63_10
def z63_8 : LC := .seq z63_9 (.stm [0, 10, 11, 12] [sd 31 (.ari .add false 12 (ki 1)), sd 12 (.mov 31)])
def z63_6 : LC := .seq z63_7 z63_8
def z63_5 : LC := .seq (.stm [0, 10, 11, 12, 13] [sd 13 (.cmp .lss 12 11)]) z63_6
def z63_4 : LC := .loop z63_5
def z63_3 : LC := .block 0 z63_4
def z63_2 : LC := .seq (.stm [0, 10, 11, 12] [sd 10 (.mov 1), sd 11 (.len false 10), sd 12 (.mov (ki 0))]) z63_3
def z63 : LC := .seq z63_0 z63_2
theorem k_emul_Term_Feed : chkFn Tryz.prog eqs0 21 z63 [] 32 = true := by kernel_rfl
def z64_2 : LC := .cond 22 .ret .skip
def z64_1 : LC := .seq (.stm [0, 3, 22] [sd 4 (.mov 0), sd 5 (.cmpN 0 false 4), sd 6 (.mov 5), .g 6 false [sd 7 (.faddr 3 4), sd 8 (.load false 1 7), sd 9 (.len false 8), sd 10 (.cmp .gtr 9 (ki 16))] 11 (.c (.bool true)) 10, sd 12 (.mov 11), .g 12 false [sd 13 (.faddr 3 5), sd 14 (.load false 1 13), sd 15 (.len false 14), sd 16 (.cmp .gtr 15 (ki 256))] 17 (.c (.bool true)) 16, sd 18 (.mov 17), .g 18 false [sd 19 (.faddr 3 4), sd 20 (.load false 1 19), sd 21 (.call 32 [20, (.c (.fn 33 []))])] 22 (.c (.bool true)) 21]) z64_2
def z64_5 : LC := .cond 50 (.stm [0, 3] [sd 51 (.mov 0), sd 52 (.nilck 51), sd 53 (.faddr 52 16), sn (.store 1 53 (.c (.bool false)))]) .skip
def z64_4 : LC := .seq (.stm [0, 3, 50] [sd 23 (.faddr 3 0), sd 24 (.load false 1 23), sd 25 (.cmp .eql 24 (ki 2)), sd 26 (.mov 25), .g 26 false [sd 27 (.faddr 3 0), sd 28 (.load false 1 27), sd 29 (.cmp .eql 28 (ki 3))] 30 (.c (.bool true)) 29, sd 31 (.mov 30), .g 31 false [sd 32 (.faddr 3 0), sd 33 (.load false 1 32), sd 34 (.cmp .eql 33 (ki 4)), sd 35 (.mov 34), .g 35 true [sd 36 (.faddr 3 2), sd 37 (.load false 1 36), sd 38 (.cmp .neq 37 (.c (.int .u8 0))), sd 39 (.mov 38), .g 39 false [sd 40 (.faddr 3 3), sd 41 (.load false 1 40), sd 42 (.cmp .neq 41 (.c (.int .u8 109))), sd 43 (.mov 42), .g 43 true [sd 44 (.faddr 3 3), sd 45 (.load false 1 44), sd 46 (.cmp .neq 45 (.c (.int .u8 98)))] 47 46 (.c (.bool false))] 48 (.c (.bool true)) 47] 49 48 (.c (.bool false))] 50 (.c (.bool true)) 49]) z64_5
def z64_15 : LC := .cond 72 (.stm [] [sd 73 (.mov 0), sd 74 (.faddr 3 3), sd 75 (.load false 1 74), sd 76 (.call 36 [73, 75])]) .skip
def z64_14 : LC := .seq (.stm [0, 3, 72] [sd 70 (.faddr 3 2), sd 71 (.load false 1 70), sd 72 (.cmp .eql 71 (.c (.int .u8 0)))]) z64_15
def z64_19 : LC := .cond 82 (.stm [] [sd 84 (.mov 0), sd 85 (.faddr 3 5), sd 86 (.load false 1 85), sd 87 (.call 38 [84, 86])]) .skip
def z64_18 : LC := .seq (.stm [0, 3, 82] [sd 83 (.cmp .eql 55 (ki 5)), sd 82 (.mov 83)]) z64_19
def z64_17 : LC := .cond 77 (.stm [] [sd 79 (.mov 0), sd 80 (.load true 6 3), sd 81 (.call 37 [79, 80])]) z64_18
def z64_16 : LC := .seq (.stm [0, 3, 55, 77] [sd 78 (.cmp .eql 55 (ki 4)), sd 77 (.mov 78)]) z64_17
def z64_13 : LC := .cond 68 z64_14 z64_16
def z64_12 : LC := .seq (.stm [0, 3, 55, 68] [sd 69 (.cmp .eql 55 (ki 3)), sd 68 (.mov 69)]) z64_13
def z64_11 : LC := .cond 62 (.stm [] [sd 64 (.mov 0), sd 65 (.faddr 3 3), sd 66 (.load false 1 65), sd 67 (.call 35 [64, 66])]) z64_12
def z64_10 : LC := .seq (.stm [0, 3, 55, 62] [sd 63 (.cmp .eql 55 (ki 2)), sd 62 (.mov 63)]) z64_11
def z64_9 : LC := .cond 56 (.stm [] [sd 58 (.mov 0), sd 59 (.faddr 3 1), sd 60 (.load false 1 59), sd 61 (.call 34 [58, 60])]) z64_10
def z64_8 : LC := .seq (.stm [0, 3, 55, 56] [sd 57 (.cmp .eql 55 (ki 1)), sd 56 (.mov 57)]) z64_9
def z64_7 : LC := .block 0 z64_8
def z64_6 : LC := .seq (.stm [0, 3, 55] [sd 54 (.faddr 3 0), sd 55 (.load false 1 54)]) z64_7
def z64_3 : LC := .seq z64_4 z64_6
def z64_0 : LC := .seq z64_1 z64_3
def z64 : LC := .seq (.stm [0, 3] [sd 3 (.box 1)]) z64_0
theorem k_emul_Term_Do : chkFn Tryz.prog eqs0 12 z64 [] 88 = true := by kernel_rfl
def z65_0 : LC := .seq (.stm [2] [sd 3 (.mov 0), sd 4 (.cmp .lss 3 (ki 0)), sd 5 (.mov 4), .g 5 false [sd 6 (.mov 0), sd 7 (.cmp .gtr 6 (ki 9999))] 8 (.c (.bool true)) 7, sd 2 (.mov 8)]) .ret
def z65 : LC := .seq (.stm [0] [sd 2 (.mov (.c (.bool false)))]) z65_0
theorem k_emul_Term_Do_1 : chkFn Tryz.prog eqs0 33 z65 [.t 2] 9 = true := by kernel_rfl
def z66_0 : LC := .seq (.stm [4] [sd 5 (.mov 0), sd 6 (.mov 1), sd 7 (.call 72 [5, 6]), sd 8 (.cmp .geq 7 (ki 0)), sd 4 (.mov 8)]) .ret
def z66 : LC := .seq (.stm [0, 1] [sd 4 (.mov (.c (.bool false)))]) z66_0
theorem k_slices_ContainsFunc_int : chkFn Tryz.prog eqs0 32 z66 [.t 4] 9 = true := by kernel_rfl
def z67_6 : LC := .cond 9 .skip (.exit 0)
def z67_12 : LC := .seq (.stm [4] [sd 17 (.mov 5), sd 4 (.mov 17)]) .ret
def z67_11 : LC := .cond 16 z67_12 .skip
def z67_10 : LC := .seq (.stm [0, 1, 5, 7, 8, 16] [sd 11 (.mov 1), sd 12 (.mov 0), sd 13 (.mov 5), sd 14 (.ixS 1 12 13), sd 15 (.load false 1 14), sd 16 (.callv 11 [15])]) z67_11
def z67_9 : LC := .seq (.stm [0, 1, 5, 7, 8] [sd 10 (.mov 8), sd 5 (.mov 10)]) z67_10
def z67_8 : LC := .block 1 z67_9
def z67_7 : LC := .seq z67_8 (.stm [0, 1, 7, 8] [sd 18 (.ari .add false 8 (ki 1)), sd 8 (.mov 18)])
def z67_5 : LC := .seq z67_6 z67_7
def z67_4 : LC := .seq (.stm [0, 1, 7, 8, 9] [sd 9 (.cmp .lss 8 7)]) z67_5
def z67_3 : LC := .loop z67_4
def z67_2 : LC := .block 0 z67_3
def z67_1 : LC := .seq (.stm [0, 1, 7, 8] [sd 6 (.mov 0), sd 7 (.len false 6), sd 8 (.mov (ki 0))]) z67_2
def z67_13 : LC := .seq (.stm [4] [sd 4 (.mov (ki (-1)))]) .ret
def z67_0 : LC := .seq z67_1 z67_13
def z67 : LC := .seq (.stm [0, 1] [sd 4 (.mov (ki 0))]) z67_0
theorem k_slices_IndexFunc_int : chkFn Tryz.prog eqs0 72 z67 [.t 4] 19 = true := by kernel_rfl
def z68_2 : LC := .cond 17 .ret .skip
def z68_1 : LC := .seq (.stm [0, 1, 4, 17] [sd 8 (.mov 4), sd 9 (.cmp .eql 8 (ki 0)), sd 10 (.mov 9), .g 10 false [sd 11 (.mov 4), sd 12 (.mov 0), sd 13 (.nilck 12), sd 14 (.faddr 13 7), sd 15 (.load false 1 14), sd 16 (.cmp .gtr 11 15)] 17 (.c (.bool true)) 16]) z68_2
def z68_8 : LC := .seq (.stm [0, 1, 4] [sd 47 (.mov 0), sd 48 (.nilck 47), sd 49 (.faddr 48 0), sd 50 (.faddr 49 0), sn (.store 1 50 (ki 0))]) (.stm [0, 1, 4] [sd 51 (.mov 0), sd 52 (.call 73 [51])])
def z68_10 : LC := .cond 53 .ret .skip
def z68_9 : LC := .seq (.stm [0, 1, 4, 53] [sd 54 (.mov 5), sd 53 (.mov 54)]) z68_10
def z68_7 : LC := .cond 33 z68_8 z68_9
def z68_6 : LC := .seq (.stm [0, 1, 4, 5, 33] [sd 34 (.mov 0), sd 35 (.nilck 34), sd 36 (.faddr 35 19), sd 37 (.load false 1 36), sd 38 (.mov 37), .g 38 true [sd 39 (.mov 0), sd 40 (.nilck 39), sd 41 (.faddr 40 16), sd 42 (.load false 1 41), sd 43 (.mov 42), .g 43 false [sd 44 (.mov 5)] 45 (.c (.bool true)) 44] 46 45 (.c (.bool false)), sd 33 (.mov 46)]) z68_7
def z68_5 : LC := .block 0 z68_6
def z68_13 : LC := .cond 58 (.reg [0, 1, 4] [⟨0, some 59, none, .mov 0, false, false⟩, ⟨1, some 60, none, .mov 0, false, false⟩, ⟨3, some 62, none, .mov 0, false, false⟩, ⟨4, some 63, none, .nilck 62, false, false⟩, ⟨5, some 64, none, .faddr 63 0, false, false⟩, ⟨6, some 65, none, .faddr 64 0, false, false⟩, ⟨7, some 66, none, .load false 1 65, false, false⟩, ⟨8, some 67, none, .mov 0, false, false⟩, ⟨9, some 68, none, .nilck 67, false, false⟩, ⟨10, some 69, none, .faddr 68 0, false, false⟩, ⟨11, some 70, none, .faddr 69 1, false, false⟩, ⟨12, some 71, none, .load false 1 70, false, false⟩, ⟨13, some 72, none, .mov 4, false, false⟩, ⟨14, some 73, none, .mov 0, false, false⟩, ⟨15, some 74, none, .nilck 73, false, false⟩, ⟨16, some 75, none, .faddr 74 0, false, false⟩, ⟨17, some 76, none, .faddr 75 2, false, false⟩, ⟨18, some 77, none, .load true 4 76, false, false⟩, ⟨2, some 61, none, .call 46 [60], true, true⟩, ⟨19, some 78, none, .call 75 [61, 66, 71, 72, 77], false, true⟩, ⟨20, some 79, none, .call 74 [59, 78], false, true⟩]) .skip
def z68_12 : LC := .seq (.stm [0, 1, 4, 58] [sd 55 (.mov 0), sd 56 (.nilck 55), sd 57 (.faddr 56 20), sd 58 (.load false 1 57)]) z68_13
def z68_16 : LC := .seq (.reg [0, 4] [⟨0, some 105, none, .mov 0, false, false⟩, ⟨1, some 106, none, .mov 0, false, false⟩, ⟨2, some 107, none, .nilck 106, false, false⟩, ⟨3, some 108, none, .faddr 107 0, false, false⟩, ⟨4, some 109, none, .faddr 108 0, false, false⟩, ⟨5, some 110, none, .load false 1 109, false, false⟩, ⟨6, some 111, none, .mov 4, false, false⟩, ⟨7, some 112, none, .ari .add false 110 111, false, false⟩, ⟨8, some 113, none, .mov 0, false, false⟩, ⟨9, some 114, none, .nilck 113, false, false⟩, ⟨10, some 115, none, .faddr 114 7, false, false⟩, ⟨11, some 116, none, .load false 1 115, false, false⟩, ⟨12, some 117, none, .cmp .geq 112 116, false, false⟩, ⟨13, some 118, none, .nilck 105, false, false⟩, ⟨14, some 119, none, .faddr 118 16, false, false⟩, ⟨15, none, none, .store 1 119 117, false, true⟩]) (.reg [] [⟨0, some 120, none, .mov 0, false, false⟩, ⟨1, some 121, none, .mov 0, false, false⟩, ⟨2, some 122, none, .nilck 121, false, false⟩, ⟨3, some 123, none, .faddr 122 0, false, false⟩, ⟨4, some 124, none, .faddr 123 0, false, false⟩, ⟨5, some 125, none, .load false 1 124, false, false⟩, ⟨6, some 126, none, .mov 4, false, false⟩, ⟨7, some 127, none, .ari .add false 125 126, false, false⟩, ⟨8, some 128, none, .mov 0, false, false⟩, ⟨9, some 129, none, .nilck 128, false, false⟩, ⟨10, some 130, none, .faddr 129 7, false, false⟩, ⟨11, some 131, none, .load false 1 130, false, false⟩, ⟨12, some 132, none, .ari .sub false 131 (ki 1), false, false⟩, ⟨13, some 133, none, .mm false 127 132, false, false⟩, ⟨14, some 134, none, .nilck 120, false, false⟩, ⟨15, some 135, none, .faddr 134 0, false, false⟩, ⟨16, some 136, none, .faddr 135 0, false, false⟩, ⟨17, none, none, .store 1 136 133, false, true⟩])
def z68_15 : LC := .seq (.stm [0, 4] [sd 101 (.mov 0), sd 102 (.mov 1), sd 103 (.nilck 101), sd 104 (.faddr 103 112), sn (.store 1 104 102)]) z68_16
def z68_14 : LC := .seq (.reg [0, 1, 4] [⟨0, some 80, none, .mov 0, false, false⟩, ⟨1, some 81, none, .mov 0, false, false⟩, ⟨3, some 83, none, .mov 0, false, false⟩, ⟨4, some 84, none, .nilck 83, false, false⟩, ⟨5, some 85, none, .faddr 84 0, false, false⟩, ⟨6, some 86, none, .faddr 85 0, false, false⟩, ⟨7, some 87, none, .load false 1 86, false, false⟩, ⟨8, some 88, none, .mov 0, false, false⟩, ⟨9, some 89, none, .nilck 88, false, false⟩, ⟨10, some 90, none, .faddr 89 0, false, false⟩, ⟨11, some 91, none, .faddr 90 1, false, false⟩, ⟨12, some 92, none, .load false 1 91, false, false⟩, ⟨13, some 93, none, .mov 1, false, false⟩, ⟨14, some 94, none, .mov 0, false, false⟩, ⟨15, some 95, none, .nilck 94, false, false⟩, ⟨16, some 96, none, .faddr 95 0, false, false⟩, ⟨17, some 97, none, .faddr 96 2, false, false⟩, ⟨18, some 98, none, .load true 4 97, false, false⟩, ⟨2, some 82, none, .call 46 [81], true, true⟩, ⟨19, some 99, none, .call 76 [82, 87, 92, 93, 98], false, true⟩, ⟨20, some 100, none, .call 74 [80, 99], false, true⟩]) z68_15
def z68_11 : LC := .seq z68_12 z68_14
def z68_4 : LC := .seq z68_5 z68_11
def z68_3 : LC := .seq (.reg [0, 1, 4, 5] [⟨0, some 18, none, .mov 4, false, false⟩, ⟨1, some 19, none, .cmp .eql 18 (ki 2), false, false⟩, ⟨2, some 20, none, .mov 19, false, false⟩, ⟨3, some 21, some (20, true), .mov 0, false, false⟩, ⟨4, some 22, some (20, true), .nilck 21, false, false⟩, ⟨5, some 23, some (20, true), .faddr 22 0, false, false⟩, ⟨6, some 24, some (20, true), .faddr 23 0, false, false⟩, ⟨7, some 25, some (20, true), .load false 1 24, false, false⟩, ⟨8, some 26, some (20, true), .mov 0, false, false⟩, ⟨9, some 27, some (20, true), .nilck 26, false, false⟩, ⟨10, some 28, some (20, true), .faddr 27 7, false, false⟩, ⟨11, some 29, some (20, true), .load false 1 28, false, false⟩, ⟨12, some 30, some (20, true), .ari .sub false 29 (ki 1), false, false⟩, ⟨13, some 31, some (20, true), .cmp .eql 25 30, false, false⟩, ⟨14, some 32, none, .pick 20 31 (.c (.bool false)), false, false⟩, ⟨15, some 5, none, .mov 32, false, false⟩]) z68_4
def z68_0 : LC := .seq z68_1 z68_3
def z68 : LC := .seq (.stm [0, 1, 4] [sd 6 (.mov 1), sd 7 (.call 54 [6]), sd 4 (.mov 7)]) z68_0
theorem k_emul_Term_print : chkFn Tryz.prog eqs0 34 z68 [] 137 = true := by kernel_rfl
def z69 : LC := .seq (.stm [0, 3] [sd 3 (.box 1)]) (.reg [] [⟨0, some 4, none, .mov 0, false, false⟩, ⟨1, some 5, none, .mov 0, false, false⟩, ⟨2, some 6, none, .nilck 5, false, false⟩, ⟨3, some 7, none, .faddr 6 15, false, false⟩, ⟨4, some 8, none, .load false 1 7, false, false⟩, ⟨5, some 9, none, .load true 3 3, false, false⟩, ⟨6, some 10, none, .nilck 4, false, false⟩, ⟨7, some 11, none, .faddr 10 9, false, false⟩, ⟨8, some 12, none, .ixA 2 3 11 8, false, false⟩, ⟨9, none, none, .store 3 12 9, false, true⟩])
theorem k_emul_Term_set : chkFn Tryz.prog eqs0 74 z69 [] 13 = true := by kernel_rfl
def z70 : LC := .reg [] [⟨0, some 6, none, .mov 0, false, false⟩, ⟨1, some 7, none, .mov 0, false, false⟩, ⟨3, some 9, none, .mov 1, false, false⟩, ⟨4, some 10, none, .mov 0, false, false⟩, ⟨5, some 11, none, .nilck 10, false, false⟩, ⟨6, some 12, none, .faddr 11 18, false, false⟩, ⟨7, some 13, none, .load false 1 12, false, false⟩, ⟨8, some 14, none, .mov 2, false, false⟩, ⟨9, some 15, none, .mov 0, false, false⟩, ⟨10, some 16, none, .nilck 15, false, false⟩, ⟨11, some 17, none, .faddr 16 0, false, false⟩, ⟨12, some 18, none, .faddr 17 2, false, false⟩, ⟨13, some 19, none, .load true 4 18, false, false⟩, ⟨2, some 8, none, .call 46 [7], true, true⟩, ⟨14, some 20, none, .call 174 [8, 9, 13, 14, 19], false, true⟩, ⟨15, some 21, none, .call 74 [6, 20], false, true⟩]
theorem k_emul_Term_scroll : chkFn Tryz.prog eqs0 131 z70 [] 22 = true := by kernel_rfl
def z71_3 : LC := .cond 19 (.stm [] [sd 31 (.mov 0), sd 32 (.nilck 31), sd 33 (.faddr 32 0), sd 34 (.faddr 33 1), sd 35 (.load false 1 34), sd 36 (.ari .add false 35 (ki 1)), sd 37 (.nilck 31), sd 38 (.faddr 37 0), sd 39 (.faddr 38 1), sn (.store 1 39 36)]) .skip
def z71_2 : LC := .seq (.reg [0, 19] [⟨0, some 20, none, .mov 0, false, false⟩, ⟨1, some 21, none, .nilck 20, false, false⟩, ⟨2, some 22, none, .faddr 21 0, false, false⟩, ⟨3, some 23, none, .faddr 22 1, false, false⟩, ⟨4, some 24, none, .load false 1 23, false, false⟩, ⟨5, some 25, none, .mov 0, false, false⟩, ⟨6, some 26, none, .nilck 25, false, false⟩, ⟨7, some 27, none, .faddr 26 8, false, false⟩, ⟨8, some 28, none, .load false 1 27, false, false⟩, ⟨9, some 29, none, .ari .sub false 28 (ki 1), false, false⟩, ⟨10, some 30, none, .cmp .lss 24 29, false, false⟩, ⟨11, some 19, none, .mov 30, false, false⟩]) z71_3
def z71_1 : LC := .cond 2 (.stm [] [sd 13 (.mov 0), sd 14 (.mov 0), sd 15 (.nilck 14), sd 16 (.faddr 15 17), sd 17 (.load false 1 16), sd 18 (.call 131 [13, 17, (ki 1)])]) z71_2
def z71_0 : LC := .seq (.reg [0, 2] [⟨0, some 3, none, .mov 0, false, false⟩, ⟨1, some 4, none, .nilck 3, false, false⟩, ⟨2, some 5, none, .faddr 4 0, false, false⟩, ⟨3, some 6, none, .faddr 5 1, false, false⟩, ⟨4, some 7, none, .load false 1 6, false, false⟩, ⟨5, some 8, none, .mov 0, false, false⟩, ⟨6, some 9, none, .nilck 8, false, false⟩, ⟨7, some 10, none, .faddr 9 18, false, false⟩, ⟨8, some 11, none, .load false 1 10, false, false⟩, ⟨9, some 12, none, .cmp .eql 7 11, false, false⟩, ⟨10, some 2, none, .mov 12, false, false⟩]) z71_1
def z71 : LC := .block 0 z71_0
theorem k_emul_Term_down : chkFn Tryz.prog eqs0 73 z71 [] 40 = true := by kernel_rfl
def z72_0 : LC := .seq (.stm [10] [sd 11 (.load true 3 5), sd 12 (.mov 2), sd 13 (.load true 4 9), sd 14 (.mkfn 135 [6, 8, 9]), sd 15 (.call 132 [11, 12, 13, 14]), sn (.store 3 10 15)]) .ret
def z72 : LC := .seq (.stm [2, 5, 6, 8, 9, 10] [sd 5 (.box 0), sd 6 (.box 1), sd 8 (.box 3), sd 9 (.box 4), sd 10 (.zero [.int .i64 0, .int .i64 0, .nils])]) z72_0
theorem k_grid_Put : chkFn Tryz.prog eqs0 76 z72 [.c 10 true 3] 16 = true := by kernel_rfl
def z73_0 : LC := .seq (.stm [5] [sd 6 (.mov 0), sd 7 (.load false 1 1), sd 8 (.load false 1 2), sd 9 (.load true 4 3), sd 10 (.call 136 [6, 7, 8, 9]), sd 5 (.mov 10)]) .ret
def z73 : LC := .seq (.stm [0, 1, 2, 3] [sd 5 (.mov (.c .nils))]) z73_0
theorem k_grid_Put_1 : chkFn Tryz.prog eqs0 135 z73 [.t 5] 11 = true := by kernel_rfl
def z74_0 : LC := .seq (.stm [10] [sd 11 (.load true 3 5), sd 12 (.mov 2), sd 13 (.load true 4 9), sd 14 (.mkfn 133 [6, 8, 9]), sd 15 (.call 132 [11, 12, 13, 14]), sn (.store 3 10 15)]) .ret
def z74 : LC := .seq (.stm [2, 5, 6, 8, 9, 10] [sd 5 (.box 0), sd 6 (.box 1), sd 8 (.box 3), sd 9 (.box 4), sd 10 (.zero [.int .i64 0, .int .i64 0, .nils])]) z74_0
theorem k_grid_Insert : chkFn Tryz.prog eqs0 75 z74 [.c 10 true 3] 16 = true := by kernel_rfl
def z75_0 : LC := .seq (.stm [5] [sd 6 (.mov 0), sd 7 (.load false 1 1), sd 8 (.load false 1 2), sd 9 (.load true 4 3), sd 10 (.call 134 [6, 7, 8, 9]), sd 5 (.mov 10)]) .ret
def z75 : LC := .seq (.stm [0, 1, 2, 3] [sd 5 (.mov (.c .nils))]) z75_0
theorem k_grid_Insert_1 : chkFn Tryz.prog eqs0 133 z75 [.t 5] 11 = true := by kernel_rfl
def z76_3 : LC := .cond 26 (.reg [4, 8] [⟨0, some 27, none, .load true 3 4, false, false⟩, ⟨1, some 28, none, .mov 1, false, false⟩, ⟨3, some 30, none, .mov 3, false, false⟩, ⟨4, some 31, none, .load true 3 4, false, false⟩, ⟨5, some 32, none, .mov 1, false, false⟩, ⟨2, some 29, none, .call 108 [27, 28], true, true⟩, ⟨6, some 33, none, .call 108 [31, 32], false, true⟩, ⟨7, some 34, none, .callv 30 [33], false, true⟩, ⟨8, some 35, none, .cpy .cell 29 34, false, true⟩]) .skip
def z76_2 : LC := .seq (.stm [1, 3, 4, 8, 26] [sd 16 (.mov 9), sd 17 (.mov 16), .g 17 true [sd 18 (.mov 1), sd 19 (.cmp .geq 18 (ki 0))] 20 19 (.c (.bool false)), sd 21 (.mov 20), .g 21 true [sd 22 (.mov 1), sd 23 (.faddr 4 1), sd 24 (.load false 1 23), sd 25 (.cmp .lss 22 24)] 26 25 (.c (.bool false))]) z76_3
def z76_4 : LC := .seq (.stm [8] [sd 36 (.load true 3 4), sn (.store 3 8 36)]) .ret
def z76_1 : LC := .seq z76_2 z76_4
def z76_0 : LC := .seq (.stm [1, 3, 4, 8, 9] [sd 11 (.load true 3 4), sd 12 (.load true 4 6), sd 13 (.call 175 [11, 12]), sd 10 (.mov 13), sd 14 (.ext 10 0), sd 15 (.ext 10 1), sn (.store 3 4 14), sd 9 (.mov 15)]) z76_1
def z76 : LC := .seq (.stm [1, 3, 4, 6, 8] [sd 4 (.box 0), sd 6 (.box 2), sd 8 (.zero [.int .i64 0, .int .i64 0, .nils])]) z76_0
theorem k_grid_turned : chkFn Tryz.prog eqs0 132 z76 [.c 8 true 3] 37 = true := by kernel_rfl
def z77_5 : LC := .seq (.stm [8] [sd 37 (.mov 0), sd 8 (.mov 37)]) .ret
def z77_4 : LC := .cond 36 z77_5 .skip
def z77_3 : LC := .seq (.stm [0, 1, 2, 7, 10, 36] [sd 19 (.mov 9), sd 20 (.un .not 19), sd 21 (.mov 20), .g 21 false [sd 22 (.mov 1), sd 23 (.cmp .lss 22 (ki 0))] 24 (.c (.bool true)) 23, sd 25 (.mov 24), .g 25 false [sd 26 (.mov 10), sd 27 (.cmp .eql 26 (ki 0))] 28 (.c (.bool true)) 27, sd 29 (.mov 28), .g 29 false [sd 30 (.mov 1), sd 31 (.mov 0), sd 32 (.len false 31), sd 33 (.mov 10), sd 34 (.ari .sub false 32 33), sd 35 (.cmp .gtr 30 34)] 36 (.c (.bool true)) 35]) z77_4
def z77_11 : LC := .cond 53 (.reg [0] [⟨0, some 54, none, .mov 0, false, false⟩, ⟨1, some 55, none, .mov 1, false, false⟩, ⟨2, some 56, none, .mov 0, false, false⟩, ⟨3, some 57, none, .mov 1, false, false⟩, ⟨4, some 58, none, .ari .add false 57 (ki 1), false, false⟩, ⟨5, some 59, none, .load true 4 7, false, false⟩, ⟨6, some 60, none, .build [.int .i32 0, .int .u8 0, .int .u32 0, .int .u32 0, .int .u8 0, .int .u16 0] [(1, 1, (.c (.int .u8 2))), (2, 4, 59)], false, false⟩, ⟨7, some 61, none, .ixS 6 54 55, false, false⟩, ⟨8, some 62, none, .faddr 61 1, false, false⟩, ⟨9, none, none, .store 1 62 (.c (.int .u8 1)), true, true⟩, ⟨10, some 63, none, .ixS 6 56 58, false, false⟩, ⟨11, none, none, .store 6 63 60, false, true⟩]) .skip
def z77_10 : LC := .seq (.stm [0, 1, 7, 53] [sd 52 (.mov 10), sd 53 (.cmp .eql 52 (ki 2))]) z77_11
def z77_12 : LC := .seq (.stm [8] [sd 64 (.mov 0), sd 8 (.mov 64)]) .ret
def z77_9 : LC := .seq z77_10 z77_12
def z77_8 : LC := .seq (.stm [0, 1, 7, 10] [sd 46 (.mov 0), sd 47 (.mov 1), sd 48 (.mov 2), sd 49 (.load true 4 7), sd 50 (.build [.int .i32 0, .int .u8 0, .int .u32 0, .int .u32 0, .int .u8 0, .int .u16 0] [(0, 1, 48), (2, 4, 49)]), sd 51 (.ixS 6 46 47), sn (.store 6 51 50)]) z77_9
def z77_7 : LC := .seq (.stm [0, 1, 2, 7, 10] [sd 41 (.mov 0), sd 42 (.mov 1), sd 43 (.mov 10), sd 44 (.ari .add false 42 43), sd 45 (.call 177 [41, 44])]) z77_8
def z77_6 : LC := .seq (.stm [0, 1, 2, 7, 10] [sd 38 (.mov 0), sd 39 (.mov 1), sd 40 (.call 177 [38, 39])]) z77_7
def z77_2 : LC := .seq z77_3 z77_6
def z77_1 : LC := .seq (.stm [0, 1, 2, 7, 9, 10] [sd 17 (.mov 2), sd 18 (.call 54 [17]), sd 10 (.mov 18)]) z77_2
def z77_0 : LC := .seq (.stm [0, 1, 2, 7, 9] [sd 12 (.mov 0), sd 13 (.load true 4 7), sd 14 (.call 176 [12, 13]), sd 11 (.mov 14), sd 15 (.ext 11 0), sd 16 (.ext 11 1), sd 0 (.mov 15), sd 9 (.mov 16)]) z77_1
def z77 : LC := .seq (.stm [0, 1, 2, 7] [sd 7 (.box 3), sd 8 (.mov (.c .nils))]) z77_0
theorem k_cell_Put : chkFn Tryz.prog eqs0 136 z77 [.t 8] 65 = true := by kernel_rfl
def z78_4 : LC := .seq (.stm [8] [sd 33 (.mov 0), sd 8 (.mov 33)]) .ret
def z78_3 : LC := .cond 32 z78_4 .skip
def z78_2 : LC := .seq (.stm [0, 1, 2, 7, 32] [sd 17 (.mov 9), sd 18 (.un .not 17), sd 19 (.mov 18), .g 19 false [sd 20 (.mov 1), sd 21 (.cmp .lss 20 (ki 0))] 22 (.c (.bool true)) 21, sd 23 (.mov 22), .g 23 false [sd 24 (.mov 1), sd 25 (.mov 0), sd 26 (.len false 25), sd 27 (.cmp .geq 24 26)] 28 (.c (.bool true)) 27, sd 29 (.mov 28), .g 29 false [sd 30 (.mov 2), sd 31 (.cmp .lss 30 (ki 1))] 32 (.c (.bool true)) 31]) z78_3
def z78_15 : LC := .cond 60 .skip (.exit 0)
def z78_18 : LC := .seq (.stm [0, 1, 7, 10, 58, 59] [sd 61 (.mov 59), sd 10 (.mov 61)]) (.stm [0, 1, 7, 58, 59] [sd 62 (.mov 0), sd 63 (.mov 1), sd 64 (.mov 10), sd 65 (.ari .add false 63 64), sd 66 (.load true 4 7), sd 67 (.call 124 [66]), sd 68 (.ixS 6 62 65), sn (.store 6 68 67)])
def z78_17 : LC := .block 1 z78_18
def z78_16 : LC := .seq z78_17 (.stm [0, 1, 7, 58, 59] [sd 69 (.ari .add false 59 (ki 1)), sd 59 (.mov 69)])
def z78_14 : LC := .seq z78_15 z78_16
def z78_13 : LC := .seq (.stm [0, 1, 7, 58, 59, 60] [sd 60 (.cmp .lss 59 58)]) z78_14
def z78_12 : LC := .loop z78_13
def z78_11 : LC := .block 0 z78_12
def z78_10 : LC := .seq (.stm [0, 1, 7, 58, 59] [sd 58 (.mov 2), sd 59 (.mov (ki 0))]) z78_11
def z78_19 : LC := .seq (.stm [8] [sd 70 (.mov 0), sd 8 (.mov 70)]) .ret
def z78_9 : LC := .seq z78_10 z78_19
def z78_8 : LC := .seq (.reg [0, 1, 2, 7] [⟨0, some 49, none, .mov 0, false, false⟩, ⟨1, some 50, none, .mov 1, false, false⟩, ⟨2, some 51, none, .mov 2, false, false⟩, ⟨3, some 52, none, .ari .add false 50 51, false, false⟩, ⟨4, some 53, none, .sl false 6 49 (some 52) none none, false, false⟩, ⟨5, some 54, none, .mov 0, false, false⟩, ⟨6, some 55, none, .mov 1, false, false⟩, ⟨7, some 56, none, .sl false 6 54 (some 55) none none, false, false⟩, ⟨8, some 57, none, .cpy .cell 53 56, false, true⟩]) z78_9
def z78_7 : LC := .seq (.stm [0, 1, 2, 7] [sd 43 (.mov 0), sd 44 (.mov 0), sd 45 (.len false 44), sd 46 (.mov 2), sd 47 (.ari .sub false 45 46), sd 48 (.call 177 [43, 47])]) z78_8
def z78_6 : LC := .seq (.stm [0, 1, 2, 7] [sd 40 (.mov 0), sd 41 (.mov 1), sd 42 (.call 177 [40, 41])]) z78_7
def z78_5 : LC := .seq (.stm [0, 1, 2, 7] [sd 34 (.mov 2), sd 35 (.mov 0), sd 36 (.len false 35), sd 37 (.mov 1), sd 38 (.ari .sub false 36 37), sd 39 (.mm false 34 38), sd 2 (.mov 39)]) z78_6
def z78_1 : LC := .seq z78_2 z78_5
def z78_0 : LC := .seq (.stm [0, 1, 2, 7, 9] [sd 12 (.mov 0), sd 13 (.load true 4 7), sd 14 (.call 176 [12, 13]), sd 11 (.mov 14), sd 15 (.ext 11 0), sd 16 (.ext 11 1), sd 0 (.mov 15), sd 9 (.mov 16)]) z78_1
def z78 : LC := .seq (.stm [0, 1, 2, 7] [sd 7 (.box 3), sd 8 (.mov (.c .nils))]) z78_0
theorem k_cell_Insert : chkFn Tryz.prog eqs0 134 z78 [.t 8] 71 = true := by kernel_rfl
def z79_3 : LC := .seq (.stm [4, 5] [sd 4 (.mov (.c .nils)), sd 5 (.mov (.c (.bool false)))]) .ret
def z79_2 : LC := .cond 13 z79_3 .skip
def z79_1 : LC := .seq (.stm [0, 13] [sd 6 (.mov 0), sd 7 (.call 107 [6]), sd 8 (.un .not 7), sd 9 (.mov 8), .g 9 false [sd 10 (.load true 4 3), sd 11 (.call 205 [10]), sd 12 (.un .not 11)] 13 (.c (.bool true)) 12]) z79_2
def z79_4 : LC := .seq (.stm [4, 5] [sd 14 (.mov 0), sd 15 (.call 101 [14]), sd 4 (.mov 15), sd 5 (.mov (.c (.bool true)))]) .ret
def z79_0 : LC := .seq z79_1 z79_4
def z79 : LC := .seq (.stm [0, 3] [sd 3 (.box 1), sd 4 (.mov (.c .nils)), sd 5 (.mov (.c (.bool false)))]) z79_0
theorem k_cell_own : chkFn Tryz.prog eqs0 176 z79 [.t 4, .t 5] 16 = true := by kernel_rfl
def z80_0 : LC := .cond 19 (.reg [] [⟨0, some 20, none, .mov 0, false, false⟩, ⟨1, some 21, none, .mov 1, false, false⟩, ⟨2, some 22, none, .ari .sub false 21 (ki 1), false, false⟩, ⟨3, some 23, none, .mov 0, false, false⟩, ⟨4, some 24, none, .mov 1, false, false⟩, ⟨5, some 25, none, .mov 0, false, false⟩, ⟨6, some 26, none, .mov 1, false, false⟩, ⟨7, some 27, none, .ixS 6 25 26, false, false⟩, ⟨8, some 28, none, .faddr 27 2, false, false⟩, ⟨9, some 29, none, .load true 4 28, false, false⟩, ⟨11, some 31, none, .mov 0, false, false⟩, ⟨12, some 32, none, .mov 1, false, false⟩, ⟨13, some 33, none, .ixS 6 31 32, false, false⟩, ⟨14, some 34, none, .faddr 33 2, false, false⟩, ⟨15, some 35, none, .load true 4 34, false, false⟩, ⟨10, some 30, none, .call 124 [29], true, true⟩, ⟨16, some 36, none, .call 124 [35], false, true⟩, ⟨17, some 37, none, .ixS 6 20 22, false, false⟩, ⟨18, none, none, .store 6 37 30, false, true⟩, ⟨19, some 38, none, .ixS 6 23 24, false, false⟩, ⟨20, none, none, .store 6 38 36, false, true⟩]) .skip
def z80 : LC := .seq (.stm [0, 1, 19] [sd 4 (.mov 1), sd 5 (.cmp .gtr 4 (ki 0)), sd 6 (.mov 5), .g 6 true [sd 7 (.mov 1), sd 8 (.mov 0), sd 9 (.len false 8), sd 10 (.cmp .lss 7 9)] 11 10 (.c (.bool false)), sd 12 (.mov 11), .g 12 true [sd 13 (.mov 0), sd 14 (.mov 1), sd 15 (.ixS 6 13 14), sd 16 (.faddr 15 1), sd 17 (.load false 1 16), sd 18 (.cmp .eql 17 (.c (.int .u8 2)))] 19 18 (.c (.bool false))]) z80_0
theorem k_cell_cut : chkFn Tryz.prog eqs0 177 z80 [] 39 = true := by kernel_rfl
end
end Go.Proofs.YtnomaidopdgdbaaGreatDoor
