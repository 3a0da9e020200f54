/- Texts of this claim, merged by a program of this claim: KRdif, KBlank, KLaw18. -/
import Derived.Test.YtcfkfgkndncanaaDoorMp5
namespace Go.Proofs.YtcfkfgkndncanaaDoor
set_option linter.unusedVariables false
set_option linter.unusedSimpArgs false
section
open Go.RowKit
set_option maxRecDepth 100000
def z75_7 : LC := .cond 15 .skip (.exit 0)
def z75_6 : LC := .seq (.stm [1, 2, 5, 6, 15] [sd 12 (.mov 6), sd 13 (.faddr 2 1), sd 14 (.load false 1 13), sd 15 (.cmp .lss 12 14)]) z75_7
def z75_17 : LC := .cond 36 .skip (.exit 2)
def z75_25 : LC := .cond 60 (.stm [1, 2, 5, 6, 7, 34, 35] [sd 61 (.mov 7), sd 62 (.mov 8), sd 63 (.mov 10), sd 64 (.ari .add false 63 (ki 1)), sd 65 (.conv .u16 true 64), sd 66 (.ixS 6 61 62), sd 67 (.faddr 66 2), sd 68 (.faddr 67 3), sn (.store 1 68 65)]) .skip
def z75_24 : LC := .seq (.stm [1, 2, 5, 6, 7, 8, 10, 34, 35, 60] [sd 55 (.mov 9), sd 56 (.cmp .neq 55 (.c (.str (bs [])))), sd 57 (.mov 56), .g 57 true [sd 58 (.mov 10), sd 59 (.cmp .geq 58 (ki 0))] 60 59 (.c (.bool false))]) z75_25
def z75_23 : LC := .seq (.stm [1, 2, 5, 6, 7, 8, 9, 10, 34, 35] [sd 52 (.mov 1), sd 53 (.mov 9), sd 54 (.call 75 [52, 53]), sd 10 (.mov 54)]) z75_24
def z75_22 : LC := .seq (.stm [1, 2, 5, 6, 7, 8, 9, 34, 35] [sd 47 (.mov 7), sd 48 (.mov 8), sd 49 (.ixS 6 47 48), sd 50 (.faddr 49 2), sd 51 (.faddr 50 3), sn (.store 1 51 (.c (.int .u16 0)))]) z75_23
def z75_21 : LC := .seq (.reg [1, 2, 5, 6, 7, 8, 9, 34, 35] [⟨0, some 38, none, .faddr 2 8, false, false⟩, ⟨1, some 39, none, .load false 1 38, false, false⟩, ⟨2, some 40, none, .mov 7, false, false⟩, ⟨3, some 41, none, .mov 8, false, false⟩, ⟨4, some 42, none, .ixS 6 40 41, false, false⟩, ⟨5, some 43, none, .faddr 42 2, false, false⟩, ⟨6, some 44, none, .faddr 43 3, false, false⟩, ⟨7, some 45, none, .load false 1 44, false, false⟩, ⟨8, some 46, none, .call 74 [39, 45], false, true⟩, ⟨9, some 9, none, .mov 46, false, false⟩]) z75_22
def z75_20 : LC := .seq (.stm [1, 2, 5, 6, 7, 8, 34, 35] [sd 37 (.mov 35), sd 8 (.mov 37)]) z75_21
def z75_19 : LC := .block 3 z75_20
def z75_18 : LC := .seq z75_19 (.stm [1, 2, 5, 6, 7, 34, 35] [sd 69 (.ari .add false 35 (ki 1)), sd 35 (.mov 69)])
def z75_16 : LC := .seq z75_17 z75_18
def z75_15 : LC := .seq (.stm [1, 2, 5, 6, 7, 34, 35, 36] [sd 36 (.cmp .lss 35 34)]) z75_16
def z75_14 : LC := .loop z75_15
def z75_13 : LC := .block 2 z75_14
def z75_12 : LC := .seq (.stm [1, 2, 5, 6, 7, 34, 35] [sd 33 (.mov 7), sd 34 (.len false 33), sd 35 (.mov (ki 0))]) z75_13
def z75_11 : LC := .seq z75_12 (.stm [1, 2, 5, 6] [sd 70 (.mov 5), sd 71 (.mov 7), sd 72 (.bslice (.rows .cell) [71]), sd 73 (.app (.rows .cell) 70 72), sd 5 (.mov 73)])
def z75_10 : LC := .seq (.stm [1, 2, 5, 6, 7] [sd 18 (.faddr 2 2), sd 19 (.load false 1 18), sd 20 (.mov 6), sd 21 (.faddr 2 0), sd 22 (.load false 1 21), sd 23 (.ari .mul false 20 22), sd 24 (.mov 6), sd 25 (.faddr 2 0), sd 26 (.load false 1 25), sd 27 (.ari .mul false 24 26), sd 28 (.faddr 2 0), sd 29 (.load false 1 28), sd 30 (.ari .add false 27 29), sd 31 (.sl false 6 19 (some 23) (some 30) none), sd 32 (.call 66 [31]), sd 7 (.mov 32)]) z75_11
def z75_9 : LC := .block 1 z75_10
def z75_8 : LC := .seq z75_9 (.stm [1, 2, 5, 6] [sd 16 (.mov 6), sd 17 (.ari .add false 16 (ki 1)), sd 6 (.mov 17)])
def z75_5 : LC := .seq z75_6 z75_8
def z75_4 : LC := .loop z75_5
def z75_3 : LC := .block 0 z75_4
def z75_2 : LC := .seq (.stm [1, 2, 5, 6] [sd 6 (.mov (ki 0))]) z75_3
def z75_26 : LC := .seq (.stm [4] [sd 74 (.mov 5), sd 4 (.mov 74)]) .ret
def z75_1 : LC := .seq z75_2 z75_26
def z75_0 : LC := .seq (.stm [1, 2, 5] [sd 11 (.bslice (.rows .cell) []), sd 5 (.mov 11)]) z75_1
def z75 : LC := .seq (.stm [1, 2] [sd 2 (.box 0), sd 4 (.mov (.c .nils))]) z75_0
theorem k_r18_Under : chkFn Tryd.prog eqs0 41 z75 [.t 4] 75 = true := by kernel_rfl
def z76_7 : LC := .cond 9 .skip (.exit 0)
def z76_6 : LC := .seq (.stm [1, 3, 4, 9] [sd 6 (.mov 4), sd 7 (.faddr 1 1), sd 8 (.load false 1 7), sd 9 (.cmp .lss 6 8)]) z76_7
def z76_9 : LC := .block 1 (.stm [1, 3, 4] [sd 12 (.mov 3), sd 13 (.faddr 1 2), sd 14 (.load false 1 13), sd 15 (.mov 4), sd 16 (.faddr 1 0), sd 17 (.load false 1 16), sd 18 (.ari .mul false 15 17), sd 19 (.mov 4), sd 20 (.faddr 1 0), sd 21 (.load false 1 20), sd 22 (.ari .mul false 19 21), sd 23 (.faddr 1 0), sd 24 (.load false 1 23), sd 25 (.ari .add false 22 24), sd 26 (.sl false 6 14 (some 18) (some 25) none), sd 27 (.call 66 [26]), sd 28 (.bslice (.rows .cell) [27]), sd 29 (.app (.rows .cell) 12 28), sd 3 (.mov 29)])
def z76_8 : LC := .seq z76_9 (.stm [1, 3, 4] [sd 10 (.mov 4), sd 11 (.ari .add false 10 (ki 1)), sd 4 (.mov 11)])
def z76_5 : LC := .seq z76_6 z76_8
def z76_4 : LC := .loop z76_5
def z76_3 : LC := .block 0 z76_4
def z76_2 : LC := .seq (.stm [1, 3, 4] [sd 4 (.mov (ki 0))]) z76_3
def z76_10 : LC := .seq (.stm [2] [sd 30 (.mov 3), sd 2 (.mov 30)]) .ret
def z76_1 : LC := .seq z76_2 z76_10
def z76_0 : LC := .seq (.stm [1, 3] [sd 5 (.bslice (.rows .cell) []), sd 3 (.mov 5)]) z76_1
def z76 : LC := .seq (.stm [1] [sd 1 (.box 0), sd 2 (.mov (.c .nils))]) z76_0
theorem k_r18_rows : chkFn Tryd.prog eqs0 42 z76 [.t 2] 31 = true := by kernel_rfl
def z77_7 : LC := .cond 11 .skip (.exit 0)
def z77_16 : LC := .cond 19 .skip (.exit 2)
def z77_21 : LC := .cond 35 (.stm [0, 1, 5, 6, 9, 10, 17, 18] [sd 36 (.mov 5), sd 37 (.ari .add false 36 (ki 1)), sd 5 (.mov 37)]) .skip
def z77_20 : LC := .seq (.reg [0, 1, 5, 6, 9, 10, 17, 18, 35] [⟨0, some 21, none, .mov 0, false, false⟩, ⟨1, some 22, none, .mov 6, false, false⟩, ⟨2, some 23, none, .ixS 1 21 22, false, false⟩, ⟨3, some 24, none, .load false 1 23, false, false⟩, ⟨4, some 25, none, .mov 7, false, false⟩, ⟨5, some 26, none, .ixS 6 24 25, false, false⟩, ⟨6, some 27, none, .load true 6 26, false, false⟩, ⟨7, some 28, none, .mov 1, false, false⟩, ⟨8, some 29, none, .mov 6, false, false⟩, ⟨9, some 30, none, .ixS 1 28 29, false, false⟩, ⟨10, some 31, none, .load false 1 30, false, false⟩, ⟨11, some 32, none, .mov 7, false, false⟩, ⟨12, some 33, none, .ixS 6 31 32, false, false⟩, ⟨13, some 34, none, .load true 6 33, false, false⟩, ⟨14, some 35, none, .eqA [.i32, .u8, .u32, .u32, .u8, .u16] true 27 34, false, false⟩]) z77_21
def z77_19 : LC := .seq (.stm [0, 1, 5, 6, 7, 9, 10, 17, 18] [sd 20 (.mov 18), sd 7 (.mov 20)]) z77_20
def z77_18 : LC := .block 3 z77_19
def z77_17 : LC := .seq z77_18 (.stm [0, 1, 5, 6, 9, 10, 17, 18] [sd 38 (.ari .add false 18 (ki 1)), sd 18 (.mov 38)])
def z77_15 : LC := .seq z77_16 z77_17
def z77_14 : LC := .seq (.stm [0, 1, 5, 6, 9, 10, 17, 18, 19] [sd 19 (.cmp .lss 18 17)]) z77_15
def z77_13 : LC := .loop z77_14
def z77_12 : LC := .block 2 z77_13
def z77_11 : LC := .seq (.stm [0, 1, 5, 6, 9, 10, 17, 18] [sd 13 (.mov 0), sd 14 (.mov 6), sd 15 (.ixS 1 13 14), sd 16 (.load false 1 15), sd 17 (.len false 16), sd 18 (.mov (ki 0))]) z77_12
def z77_10 : LC := .seq (.stm [0, 1, 5, 6, 9, 10] [sd 12 (.mov 10), sd 6 (.mov 12)]) z77_11
def z77_9 : LC := .block 1 z77_10
def z77_8 : LC := .seq z77_9 (.stm [0, 1, 5, 9, 10] [sd 39 (.ari .add false 10 (ki 1)), sd 10 (.mov 39)])
def z77_6 : LC := .seq z77_7 z77_8
def z77_5 : LC := .seq (.stm [0, 1, 5, 9, 10, 11] [sd 11 (.cmp .lss 10 9)]) z77_6
def z77_4 : LC := .loop z77_5
def z77_3 : LC := .block 0 z77_4
def z77_2 : LC := .seq (.stm [0, 1, 5, 9, 10] [sd 8 (.mov 0), sd 9 (.len false 8), sd 10 (.mov (ki 0))]) z77_3
def z77_22 : LC := .seq (.stm [4] [sd 40 (.mov 5), sd 4 (.mov 40)]) .ret
def z77_1 : LC := .seq z77_2 z77_22
def z77_0 : LC := .seq (.stm [0, 1, 5] [sd 5 (.mov (ki 0))]) z77_1
def z77 : LC := .seq (.stm [0, 1] [sd 4 (.mov (ki 0))]) z77_0
theorem k_r18_unlike : chkFn Tryd.prog eqs0 76 z77 [.t 4] 41 = true := by kernel_rfl
def z78_7 : LC := .cond 11 .skip (.exit 0)
def z78_12 : LC := .cond 24 (.stm [0, 1, 5, 9, 10] [sd 25 (.mov 5), sd 26 (.mov 0), sd 27 (.mov 6), sd 28 (.mov 1), sd 29 (.ari .add false 27 28), sd 30 (.ixS 1 26 29), sd 31 (.load false 1 30), sd 32 (.call 66 [31]), sd 33 (.bslice (.rows .cell) [32]), sd 34 (.app (.rows .cell) 25 33), sd 5 (.mov 34)]) (.stm [0, 1, 5, 9, 10] [sd 35 (.mov 5), sd 36 (.mov 0), sd 37 (.mov 6), sd 38 (.ixS 1 36 37), sd 39 (.load false 1 38), sd 40 (.len false 39), sd 41 (.build [.int .u32 0, .int .u32 0, .int .u8 0, .int .u16 0] []), sd 42 (.call 77 [40, 41]), sd 43 (.bslice (.rows .cell) [42]), sd 44 (.app (.rows .cell) 35 43), sd 5 (.mov 44)])
def z78_11 : LC := .seq (.stm [0, 1, 5, 6, 9, 10, 24] [sd 13 (.mov 6), sd 14 (.mov 1), sd 15 (.ari .add false 13 14), sd 16 (.cmp .geq 15 (ki 0)), sd 17 (.mov 16), .g 17 true [sd 18 (.mov 6), sd 19 (.mov 1), sd 20 (.ari .add false 18 19), sd 21 (.mov 0), sd 22 (.len false 21), sd 23 (.cmp .lss 20 22)] 24 23 (.c (.bool false))]) z78_12
def z78_10 : LC := .seq (.stm [0, 1, 5, 6, 9, 10] [sd 12 (.mov 10), sd 6 (.mov 12)]) z78_11
def z78_9 : LC := .block 1 z78_10
def z78_8 : LC := .seq z78_9 (.stm [0, 1, 5, 9, 10] [sd 45 (.ari .add false 10 (ki 1)), sd 10 (.mov 45)])
def z78_6 : LC := .seq z78_7 z78_8
def z78_5 : LC := .seq (.stm [0, 1, 5, 9, 10, 11] [sd 11 (.cmp .lss 10 9)]) z78_6
def z78_4 : LC := .loop z78_5
def z78_3 : LC := .block 0 z78_4
def z78_2 : LC := .seq (.stm [0, 1, 5, 9, 10] [sd 8 (.mov 0), sd 9 (.len false 8), sd 10 (.mov (ki 0))]) z78_3
def z78_13 : LC := .seq (.stm [4] [sd 46 (.mov 5), sd 4 (.mov 46)]) .ret
def z78_1 : LC := .seq z78_2 z78_13
def z78_0 : LC := .seq (.stm [0, 1, 5] [sd 7 (.bslice (.rows .cell) []), sd 5 (.mov 7)]) z78_1
def z78 : LC := .seq (.stm [0, 1] [sd 4 (.mov (.c .nils))]) z78_0
theorem k_r18_Scrolled : chkFn Tryd.prog eqs0 44 z78 [.t 4] 47 = true := by kernel_rfl
def z79_8 : LC := .cond 18 .skip (.exit 0)
def z79_7 : LC := .seq (.stm [0, 1, 5, 6, 7, 18] [sd 13 (.mov 7), sd 14 (.mov 0), sd 15 (.len false 14), sd 16 (.ari .mul false (ki 2) 15), sd 17 (.ari .sub false 16 (ki 1)), sd 18 (.cmp .lss 13 17)]) z79_8
def z79_14 : LC := .cond 26 (.stm [0, 1, 5, 6, 7, 8] [sd 27 (.mov 8), sd 28 (.un .neg 27), sd 8 (.mov 28)]) .skip
def z79_13 : LC := .seq (.stm [0, 1, 5, 6, 7, 8, 26] [sd 24 (.mov 7), sd 25 (.ari .rem false 24 (ki 2)), sd 26 (.cmp .eql 25 (ki 0))]) z79_14
def z79_18 : LC := .seq (.stm [0, 1, 5, 7, 9] [sd 37 (.mov 8), sd 5 (.mov 37)]) (.stm [0, 1, 5, 6, 7] [sd 38 (.mov 9), sd 6 (.mov 38)])
def z79_17 : LC := .cond 36 z79_18 .skip
def z79_16 : LC := .seq (.stm [0, 1, 5, 6, 7, 8, 9, 36] [sd 34 (.mov 9), sd 35 (.mov 6), sd 36 (.cmp .lss 34 35)]) z79_17
def z79_15 : LC := .seq (.stm [0, 1, 5, 6, 7, 8, 9] [sd 29 (.mov 0), sd 30 (.mov 8), sd 31 (.call 44 [29, 30]), sd 32 (.mov 1), sd 33 (.call 76 [31, 32]), sd 9 (.mov 33)]) z79_16
def z79_12 : LC := .seq z79_13 z79_15
def z79_11 : LC := .seq (.stm [0, 1, 5, 6, 7, 8] [sd 21 (.mov 7), sd 22 (.ari .add false 21 (ki 1)), sd 23 (.ari .quo false 22 (ki 2)), sd 8 (.mov 23)]) z79_12
def z79_10 : LC := .block 1 z79_11
def z79_9 : LC := .seq z79_10 (.stm [0, 1, 5, 6, 7] [sd 19 (.mov 7), sd 20 (.ari .add false 19 (ki 1)), sd 7 (.mov 20)])
def z79_6 : LC := .seq z79_7 z79_9
def z79_5 : LC := .loop z79_6
def z79_4 : LC := .block 0 z79_5
def z79_3 : LC := .seq (.stm [0, 1, 5, 6, 7] [sd 7 (.mov (ki 1))]) z79_4
def z79_19 : LC := .seq (.stm [4] [sd 39 (.mov 5), sd 4 (.mov 39)]) .ret
def z79_2 : LC := .seq z79_3 z79_19
def z79_1 : LC := .seq (.stm [0, 1, 5, 6] [sd 10 (.mov 0), sd 11 (.mov 1), sd 12 (.call 76 [10, 11]), sd 6 (.mov 12)]) z79_2
def z79_0 : LC := .seq (.stm [0, 1, 5] [sd 5 (.mov (ki 0))]) z79_1
def z79 : LC := .seq (.stm [0, 1] [sd 4 (.mov (ki 0))]) z79_0
theorem k_r18_Best : chkFn Tryd.prog eqs0 43 z79 [.t 4] 40 = true := by kernel_rfl
def z80_7 : LC := .cond 21 .skip (.exit 0)
def z80_16 : LC := .cond 29 .skip (.exit 2)
def z80_24 : LC := .cond 40 (.stm [0, 1, 5, 6, 7, 8, 9, 19, 20, 27, 28] [sd 9 (.mov (ki 2))]) .skip
def z80_23 : LC := .seq (.stm [0, 1, 5, 6, 7, 8, 9, 19, 20, 27, 28, 40] [sd 38 (.faddr 8 1), sd 39 (.load false 1 38), sd 40 (.cmp .eql 39 (.c (.int .u8 1)))]) z80_24
def z80_26 : LC := .cond 65 (.reg [0, 1, 5, 6, 19, 20, 27, 28] [⟨0, some 66, none, .mov 5, false, false⟩, ⟨1, some 67, none, .mov 6, false, false⟩, ⟨2, some 68, none, .mov 1, false, false⟩, ⟨3, some 69, none, .mov 6, false, false⟩, ⟨4, some 70, none, .ixS 1 68 69, false, false⟩, ⟨5, some 71, none, .load false 1 70, false, false⟩, ⟨6, some 72, none, .len false 71, false, false⟩, ⟨7, some 73, none, .ari .mul false 67 72, false, false⟩, ⟨8, some 74, none, .mov 7, false, false⟩, ⟨9, some 75, none, .ari .add false 73 74, false, false⟩, ⟨10, some 76, none, .mov 9, false, false⟩, ⟨11, some 77, none, .load true 6 8, false, false⟩, ⟨12, some 78, none, .build [.int .i64 0, .int .i64 0, .int .i32 0, .int .u8 0, .int .u32 0, .int .u32 0, .int .u8 0, .int .u16 0] [(0, 1, 75), (1, 1, 76), (2, 6, 77)], false, false⟩, ⟨13, some 79, none, .bslice (.pair (.int .i64) (.pair (.int .i64) .cell)) [78], false, false⟩, ⟨14, some 80, none, .app (.pair (.int .i64) (.pair (.int .i64) .cell)) 66 79, false, true⟩, ⟨15, some 5, none, .mov 80, false, false⟩]) .skip
def z80_25 : LC := .seq (.reg [0, 1, 5, 6, 7, 8, 9, 19, 20, 27, 28, 65] [⟨0, some 41, none, .faddr 8 1, false, false⟩, ⟨1, some 42, none, .load false 1 41, false, false⟩, ⟨2, some 43, none, .cmp .neq 42 (.c (.int .u8 2)), false, false⟩, ⟨3, some 44, none, .mov 43, false, false⟩, ⟨4, some 45, some (44, true), .mov 0, false, false⟩, ⟨5, some 46, some (44, true), .mov 6, false, false⟩, ⟨6, some 47, some (44, true), .ixS 1 45 46, false, false⟩, ⟨7, some 48, some (44, true), .load false 1 47, false, false⟩, ⟨8, some 49, some (44, true), .mov 7, false, false⟩, ⟨9, some 50, some (44, true), .mov 7, false, false⟩, ⟨10, some 51, some (44, true), .mov 9, false, false⟩, ⟨11, some 52, some (44, true), .ari .add false 50 51, false, false⟩, ⟨12, some 53, some (44, true), .sl false 6 48 (some 49) (some 52) none, false, false⟩, ⟨13, some 54, some (44, true), .mov 1, false, false⟩, ⟨14, some 55, some (44, true), .mov 6, false, false⟩, ⟨15, some 56, some (44, true), .ixS 1 54 55, false, false⟩, ⟨16, some 57, some (44, true), .load false 1 56, false, false⟩, ⟨17, some 58, some (44, true), .mov 7, false, false⟩, ⟨18, some 59, some (44, true), .mov 7, false, false⟩, ⟨19, some 60, some (44, true), .mov 9, false, false⟩, ⟨20, some 61, some (44, true), .ari .add false 59 60, false, false⟩, ⟨21, some 62, some (44, true), .sl false 6 57 (some 58) (some 61) none, false, false⟩, ⟨22, some 63, some (44, true), .call 45 [53, 62], false, true⟩, ⟨23, some 64, some (44, true), .un .not 63, false, false⟩, ⟨24, some 65, none, .pick 44 64 (.c (.bool false)), false, false⟩]) z80_26
def z80_22 : LC := .seq z80_23 z80_25
def z80_21 : LC := .seq (.stm [0, 1, 5, 6, 7, 8, 9, 19, 20, 27, 28] [sd 9 (.mov (ki 1))]) z80_22
def z80_20 : LC := .seq (.stm [0, 1, 5, 6, 7, 8, 19, 20, 27, 28] [sd 31 (.mov 1), sd 32 (.mov 6), sd 33 (.ixS 1 31 32), sd 34 (.load false 1 33), sd 35 (.mov 7), sd 36 (.ixS 6 34 35), sd 37 (.load true 6 36), sd 8 (.zero [.int .i32 0, .int .u8 0, .int .u32 0, .int .u32 0, .int .u8 0, .int .u16 0]), sn (.store 6 8 37)]) z80_21
def z80_19 : LC := .seq (.stm [0, 1, 5, 6, 7, 19, 20, 27, 28] [sd 30 (.mov 28), sd 7 (.mov 30)]) z80_20
def z80_18 : LC := .block 3 z80_19
def z80_17 : LC := .seq z80_18 (.stm [0, 1, 5, 6, 19, 20, 27, 28] [sd 81 (.ari .add false 28 (ki 1)), sd 28 (.mov 81)])
def z80_15 : LC := .seq z80_16 z80_17
def z80_14 : LC := .seq (.stm [0, 1, 5, 6, 19, 20, 27, 28, 29] [sd 29 (.cmp .lss 28 27)]) z80_15
def z80_13 : LC := .loop z80_14
def z80_12 : LC := .block 2 z80_13
def z80_11 : LC := .seq (.stm [0, 1, 5, 6, 19, 20, 27, 28] [sd 23 (.mov 1), sd 24 (.mov 6), sd 25 (.ixS 1 23 24), sd 26 (.load false 1 25), sd 27 (.len false 26), sd 28 (.mov (ki 0))]) z80_12
def z80_10 : LC := .seq (.stm [0, 1, 5, 6, 19, 20] [sd 22 (.mov 20), sd 6 (.mov 22)]) z80_11
def z80_9 : LC := .block 1 z80_10
def z80_8 : LC := .seq z80_9 (.stm [0, 1, 5, 19, 20] [sd 82 (.ari .add false 20 (ki 1)), sd 20 (.mov 82)])
def z80_6 : LC := .seq z80_7 z80_8
def z80_5 : LC := .seq (.stm [0, 1, 5, 19, 20, 21] [sd 21 (.cmp .lss 20 19)]) z80_6
def z80_4 : LC := .loop z80_5
def z80_3 : LC := .block 0 z80_4
def z80_2 : LC := .seq (.stm [0, 1, 5, 19, 20] [sd 18 (.mov 1), sd 19 (.len false 18), sd 20 (.mov (ki 0))]) z80_3
def z80_30 : LC := .seq (.stm [4] [sd 4 (.mov (.c .nils))]) .ret
def z80_29 : LC := .cond 85 z80_30 .skip
def z80_28 : LC := .seq (.stm [5, 85] [sd 83 (.mov 5), sd 84 (.len false 83), sd 85 (.cmp .eql 84 (ki 0))]) z80_29
def z80_40 : LC := .cond 90 .skip (.exit 4)
def z80_39 : LC := .seq (.stm [5, 10, 11, 12, 13, 90] [sd 87 (.mov 13), sd 88 (.mov 5), sd 89 (.len false 88), sd 90 (.cmp .lss 87 89)]) z80_40
def z80_48 : LC := .cond 132 .skip (.exit 6)
def z80_47 : LC := .seq (.reg [5, 10, 11, 12, 13, 14, 132] [⟨0, some 93, none, .mov 14, false, false⟩, ⟨1, some 94, none, .mov 5, false, false⟩, ⟨2, some 95, none, .len false 94, false, false⟩, ⟨3, some 96, none, .cmp .lss 93 95, false, false⟩, ⟨4, some 97, none, .mov 96, false, false⟩, ⟨5, some 98, some (97, true), .mov 5, false, false⟩, ⟨6, some 99, some (97, true), .mov 14, false, false⟩, ⟨7, some 100, some (97, true), .ixS 8 98 99, false, false⟩, ⟨8, some 101, some (97, true), .faddr 100 0, false, false⟩, ⟨9, some 102, some (97, true), .load false 1 101, false, false⟩, ⟨10, some 103, some (97, true), .mov 5, false, false⟩, ⟨11, some 104, some (97, true), .mov 14, false, false⟩, ⟨12, some 105, some (97, true), .ari .sub false 104 (ki 1), false, false⟩, ⟨13, some 106, some (97, true), .ixS 8 103 105, false, false⟩, ⟨14, some 107, some (97, true), .faddr 106 0, false, false⟩, ⟨15, some 108, some (97, true), .load false 1 107, false, false⟩, ⟨16, some 109, some (97, true), .mov 5, false, false⟩, ⟨17, some 110, some (97, true), .mov 14, false, false⟩, ⟨18, some 111, some (97, true), .ari .sub false 110 (ki 1), false, false⟩, ⟨19, some 112, some (97, true), .ixS 8 109 111, false, false⟩, ⟨20, some 113, some (97, true), .faddr 112 1, false, false⟩, ⟨21, some 114, some (97, true), .load false 1 113, false, false⟩, ⟨22, some 115, some (97, true), .ari .add false 108 114, false, false⟩, ⟨23, some 116, some (97, true), .cmp .eql 102 115, false, false⟩, ⟨24, some 117, none, .pick 97 116 (.c (.bool false)), false, false⟩, ⟨25, some 118, none, .mov 117, false, false⟩, ⟨26, some 119, some (118, true), .mov 5, false, false⟩, ⟨27, some 120, some (118, true), .mov 14, false, false⟩, ⟨28, some 121, some (118, true), .ixS 8 119 120, false, false⟩, ⟨29, some 122, some (118, true), .faddr 121 2, false, false⟩, ⟨30, some 123, some (118, true), .faddr 122 2, false, false⟩, ⟨31, some 124, some (118, true), .load true 4 123, false, false⟩, ⟨32, some 125, some (118, true), .mov 5, false, false⟩, ⟨33, some 126, some (118, true), .mov 13, false, false⟩, ⟨34, some 127, some (118, true), .ixS 8 125 126, false, false⟩, ⟨35, some 128, some (118, true), .faddr 127 2, false, false⟩, ⟨36, some 129, some (118, true), .faddr 128 2, false, false⟩, ⟨37, some 130, some (118, true), .load true 4 129, false, false⟩, ⟨38, some 131, some (118, true), .eqA [.u32, .u32, .u8, .u16] false 124 130, false, false⟩, ⟨39, some 132, none, .pick 118 131 (.c (.bool false)), false, false⟩]) z80_48
def z80_49 : LC := .block 7 (.stm [5, 10, 11, 12, 13, 14] [sd 133 (.mov 14), sd 134 (.ari .add false 133 (ki 1)), sd 14 (.mov 134)])
def z80_46 : LC := .seq z80_47 z80_49
def z80_45 : LC := .loop z80_46
def z80_44 : LC := .block 6 z80_45
def z80_58 : LC := .cond 170 .skip (.exit 8)
def z80_57 : LC := .seq (.stm [5, 10, 11, 14, 16, 170] [sd 168 (.mov 16), sd 169 (.mov 14), sd 170 (.cmp .lss 168 169)]) z80_58
def z80_60 : LC := .block 9 (.stm [5, 10, 11, 14, 16] [sd 173 (.mov 10), sd 174 (.mov 5), sd 175 (.mov 16), sd 176 (.ixS 8 174 175), sd 177 (.faddr 176 2), sd 178 (.faddr 177 0), sd 179 (.load false 1 178), sd 180 (.conv .i64 false 179), sd 181 (.bslice (.int .i64) [180]), sd 182 (.call 21 [181]), sd 183 (.app (.int .u8) 173 182), sd 10 (.mov 183)])
def z80_59 : LC := .seq z80_60 (.stm [5, 10, 11, 14, 16] [sd 171 (.mov 16), sd 172 (.ari .add false 171 (ki 1)), sd 16 (.mov 172)])
def z80_56 : LC := .seq z80_57 z80_59
def z80_55 : LC := .loop z80_56
def z80_54 : LC := .block 8 z80_55
def z80_53 : LC := .seq (.stm [5, 10, 11, 14, 16] [sd 167 (.mov 13), sd 16 (.mov 167)]) z80_54
def z80_62 : LC := .seq (.stm [5, 10, 11, 12, 13] [sd 197 (.mov 14), sd 13 (.mov 197)]) (.stm [5, 10, 11, 12, 13] [sd 198 (.mov 11), sd 199 (.ari .add false 198 (ki 1)), sd 11 (.mov 199)])
def z80_61 : LC := .seq (.reg [5, 10, 11, 12, 14] [⟨0, some 184, none, .mov 5, false, false⟩, ⟨1, some 185, none, .mov 14, false, false⟩, ⟨2, some 186, none, .ari .sub false 185 (ki 1), false, false⟩, ⟨3, some 187, none, .ixS 8 184 186, false, false⟩, ⟨4, some 188, none, .faddr 187 0, false, false⟩, ⟨5, some 189, none, .load false 1 188, false, false⟩, ⟨6, some 190, none, .mov 5, false, false⟩, ⟨7, some 191, none, .mov 14, false, false⟩, ⟨8, some 192, none, .ari .sub false 191 (ki 1), false, false⟩, ⟨9, some 193, none, .ixS 8 190 192, false, false⟩, ⟨10, some 194, none, .faddr 193 1, false, false⟩, ⟨11, some 195, none, .load false 1 194, false, false⟩, ⟨12, some 196, none, .ari .add false 189 195, false, false⟩, ⟨13, some 12, none, .mov 196, false, false⟩]) z80_62
def z80_52 : LC := .seq z80_53 z80_61
def z80_51 : LC := .seq (.reg [5, 10, 11, 13, 14] [⟨0, some 141, none, .mov 10, false, false⟩, ⟨1, some 142, none, .mov 5, false, false⟩, ⟨2, some 143, none, .mov 13, false, false⟩, ⟨3, some 144, none, .ixS 8 142 143, false, false⟩, ⟨4, some 145, none, .faddr 144 0, false, false⟩, ⟨5, some 146, none, .load false 1 145, false, false⟩, ⟨6, some 147, none, .mov 12, false, false⟩, ⟨7, some 148, none, .ari .sub false 146 147, false, false⟩, ⟨8, some 149, none, .mov 14, false, false⟩, ⟨9, some 150, none, .mov 13, false, false⟩, ⟨10, some 151, none, .ari .sub false 149 150, false, false⟩, ⟨11, some 152, none, .faddr 15 0, false, false⟩, ⟨12, some 153, none, .load false 1 152, false, false⟩, ⟨13, some 154, none, .conv .i64 false 153, false, false⟩, ⟨14, some 155, none, .faddr 15 1, false, false⟩, ⟨15, some 156, none, .load false 1 155, false, false⟩, ⟨16, some 157, none, .conv .i64 false 156, false, false⟩, ⟨17, some 158, none, .faddr 15 2, false, false⟩, ⟨18, some 159, none, .load false 1 158, false, false⟩, ⟨19, some 160, none, .conv .i64 false 159, false, false⟩, ⟨20, some 161, none, .faddr 15 3, false, false⟩, ⟨21, some 162, none, .load false 1 161, false, false⟩, ⟨22, some 163, none, .conv .i64 false 162, false, false⟩, ⟨23, some 164, none, .bslice (.int .i64) [148, 151, 154, 157, 160, 163], false, false⟩, ⟨24, some 165, none, .call 21 [164], false, true⟩, ⟨25, some 166, none, .app (.int .u8) 141 165, false, true⟩, ⟨26, some 10, none, .mov 166, false, false⟩]) z80_52
def z80_50 : LC := .seq (.stm [5, 10, 11, 12, 13, 14, 15] [sd 135 (.mov 5), sd 136 (.mov 13), sd 137 (.ixS 8 135 136), sd 138 (.faddr 137 2), sd 139 (.faddr 138 2), sd 140 (.load true 4 139), sd 15 (.zero [.int .u32 0, .int .u32 0, .int .u8 0, .int .u16 0]), sn (.store 4 15 140)]) z80_51
def z80_43 : LC := .seq z80_44 z80_50
def z80_42 : LC := .seq (.stm [5, 10, 11, 12, 13, 14] [sd 91 (.mov 13), sd 92 (.ari .add false 91 (ki 1)), sd 14 (.mov 92)]) z80_43
def z80_41 : LC := .block 5 z80_42
def z80_38 : LC := .seq z80_39 z80_41
def z80_37 : LC := .loop z80_38
def z80_36 : LC := .block 4 z80_37
def z80_35 : LC := .seq (.stm [5, 10, 11, 12, 13] [sd 13 (.mov (ki 0))]) z80_36
def z80_63 : LC := .seq (.stm [4] [sd 200 (.bslice (.int .u8) [(.c (.int .u8 8))]), sd 201 (.mov 11), sd 202 (.bslice (.int .i64) [201]), sd 203 (.call 21 [202]), sd 204 (.app (.int .u8) 200 203), sd 205 (.mov 10), sd 206 (.app (.int .u8) 204 205), sd 4 (.mov 206)]) .ret
def z80_34 : LC := .seq z80_35 z80_63
def z80_33 : LC := .seq (.stm [5, 10, 11, 12] [sd 12 (.mov (ki 0))]) z80_34
def z80_32 : LC := .seq (.stm [5, 10, 11] [sd 11 (.mov (ki 0))]) z80_33
def z80_31 : LC := .seq (.stm [5, 10] [sd 86 (.bslice (.int .u8) []), sd 10 (.mov 86)]) z80_32
def z80_27 : LC := .seq z80_28 z80_31
def z80_1 : LC := .seq z80_2 z80_27
def z80_0 : LC := .seq (.stm [0, 1, 5] [sd 17 (.bslice (.pair (.int .i64) (.pair (.int .i64) .cell)) []), sd 5 (.mov 17)]) z80_1
def z80 : LC := .seq (.stm [0, 1] [sd 4 (.mov (.c .nils))]) z80_0
theorem k_r18_Runs : chkFn Tryd.prog eqs0 46 z80 [.t 4] 207 = true := by kernel_rfl
def z81_7 : LC := .cond 52 (.stm [2, 3, 5] [sd 53 (.mov 5), sd 54 (.bslice (.int .u8) [(.c (.int .u8 1))]), sd 55 (.app (.int .u8) 53 54), sd 5 (.mov 55)]) (.stm [2, 3, 5] [sd 56 (.mov 5), sd 57 (.bslice (.int .u8) [(.c (.int .u8 0))]), sd 58 (.app (.int .u8) 56 57), sd 5 (.mov 58)])
def z81_6 : LC := .seq (.stm [2, 3, 5, 52] [sd 51 (.faddr 3 5), sd 52 (.load false 1 51)]) z81_7
def z81_5 : LC := .seq (.stm [2, 3, 5] [sd 43 (.mov 5), sd 44 (.faddr 3 3), sd 45 (.load false 1 44), sd 46 (.faddr 3 4), sd 47 (.load false 1 46), sd 48 (.bslice (.int .i64) [45, 47]), sd 49 (.call 21 [48]), sd 50 (.app (.int .u8) 43 49), sd 5 (.mov 50)]) z81_6
def z81_4 : LC := .seq (.stm [2, 3, 5] [sd 40 (.mov 5), sd 41 (.bslice (.int .u8) [(.c (.int .u8 2))]), sd 42 (.app (.int .u8) 40 41), sd 5 (.mov 42)]) z81_5
def z81_3 : LC := .cond 39 z81_4 .skip
def z81_2 : LC := .seq (.stm [2, 3, 5, 39] [sd 21 (.faddr 3 3), sd 22 (.load false 1 21), sd 23 (.faddr 2 3), sd 24 (.load false 1 23), sd 25 (.cmp .neq 22 24), sd 26 (.mov 25), .g 26 false [sd 27 (.faddr 3 4), sd 28 (.load false 1 27), sd 29 (.faddr 2 4), sd 30 (.load false 1 29), sd 31 (.cmp .neq 28 30)] 32 (.c (.bool true)) 31, sd 33 (.mov 32), .g 33 false [sd 34 (.faddr 3 5), sd 35 (.load false 1 34), sd 36 (.faddr 2 5), sd 37 (.load false 1 36), sd 38 (.cmpB true 35 37)] 39 (.c (.bool true)) 38]) z81_3
def z81_12 : LC := .seq (.stm [2, 3, 5, 6] [sd 71 (.mov 5), sd 72 (.bslice (.int .u8) [(.c (.int .u8 3))]), sd 73 (.app (.int .u8) 71 72), sd 5 (.mov 73)]) (.stm [2, 3, 5] [sd 74 (.mov 5), sd 75 (.mov 6), sd 76 (.app (.int .u8) 74 75), sd 5 (.mov 76)])
def z81_11 : LC := .seq (.stm [2, 3, 5, 6] [sd 65 (.faddr 3 7), sd 66 (.load false 1 65), sd 67 (.s2b 66), sd 68 (.call 40 [67]), sd 64 (.mov 68), sd 69 (.ext 64 0), sd 70 (.ext 64 1), sd 6 (.mov 69), sd 7 (.mov 70)]) z81_12
def z81_10 : LC := .cond 63 z81_11 .skip
def z81_9 : LC := .seq (.stm [2, 3, 5, 63] [sd 59 (.faddr 3 7), sd 60 (.load false 1 59), sd 61 (.faddr 2 7), sd 62 (.load false 1 61), sd 63 (.cmp .neq 60 62)]) z81_10
def z81_15 : LC := .cond 81 (.stm [2, 3, 5] [sd 82 (.mov 5), sd 83 (.faddr 3 6), sd 84 (.load false 1 83), sd 85 (.bslice (.int .u8) [(.c (.int .u8 4)), 84]), sd 86 (.app (.int .u8) 82 85), sd 5 (.mov 86)]) .skip
def z81_14 : LC := .seq (.stm [2, 3, 5, 81] [sd 77 (.faddr 3 6), sd 78 (.load false 1 77), sd 79 (.faddr 2 6), sd 80 (.load false 1 79), sd 81 (.cmp .neq 78 80)]) z81_15
def z81_25 : LC := .cond 117 .skip (.exit 0)
def z81_24 : LC := .seq (.reg [2, 3, 5, 8, 117] [⟨0, some 93, none, .mov 8, false, false⟩, ⟨1, some 94, none, .faddr 3 8, false, false⟩, ⟨2, some 95, none, .load false 1 94, false, false⟩, ⟨3, some 96, none, .len false 95, false, false⟩, ⟨4, some 97, none, .cmp .lss 93 96, false, false⟩, ⟨5, some 98, none, .mov 97, false, false⟩, ⟨6, some 99, some (98, true), .mov 8, false, false⟩, ⟨7, some 100, some (98, true), .faddr 2 8, false, false⟩, ⟨8, some 101, some (98, true), .load false 1 100, false, false⟩, ⟨9, some 102, some (98, true), .len false 101, false, false⟩, ⟨10, some 103, some (98, true), .cmp .lss 99 102, false, false⟩, ⟨11, some 104, none, .pick 98 103 (.c (.bool false)), false, false⟩, ⟨12, some 105, none, .mov 104, false, false⟩, ⟨13, some 106, some (105, true), .faddr 3 8, false, false⟩, ⟨14, some 107, some (105, true), .load false 1 106, false, false⟩, ⟨15, some 108, some (105, true), .mov 8, false, false⟩, ⟨16, some 109, some (105, true), .ixS 1 107 108, false, false⟩, ⟨17, some 110, some (105, true), .load false 1 109, false, false⟩, ⟨18, some 111, some (105, true), .faddr 2 8, false, false⟩, ⟨19, some 112, some (105, true), .load false 1 111, false, false⟩, ⟨20, some 113, some (105, true), .mov 8, false, false⟩, ⟨21, some 114, some (105, true), .ixS 1 112 113, false, false⟩, ⟨22, some 115, some (105, true), .load false 1 114, false, false⟩, ⟨23, some 116, some (105, true), .cmp .eql 110 115, false, false⟩, ⟨24, some 117, none, .pick 105 116 (.c (.bool false)), false, false⟩]) z81_25
def z81_26 : LC := .block 1 (.stm [2, 3, 5, 8] [sd 118 (.mov 8), sd 119 (.ari .add false 118 (ki 1)), sd 8 (.mov 119)])
def z81_23 : LC := .seq z81_24 z81_26
def z81_22 : LC := .loop z81_23
def z81_21 : LC := .block 0 z81_22
def z81_34 : LC := .cond 138 .skip (.exit 2)
def z81_33 : LC := .seq (.stm [2, 3, 5, 9, 138] [sd 134 (.mov 9), sd 135 (.faddr 3 8), sd 136 (.load false 1 135), sd 137 (.len false 136), sd 138 (.cmp .lss 134 137)]) z81_34
def z81_37 : LC := .seq (.stm [2, 3, 5, 9, 10] [sd 142 (.faddr 3 8), sd 143 (.load false 1 142), sd 144 (.mov 9), sd 145 (.ixS 1 143 144), sd 146 (.load false 1 145), sd 147 (.s2b 146), sd 148 (.call 40 [147]), sd 141 (.mov 148), sd 149 (.ext 141 0), sd 150 (.ext 141 1), sd 10 (.mov 149), sd 11 (.mov 150)]) (.stm [2, 3, 5, 9] [sd 151 (.mov 5), sd 152 (.mov 10), sd 153 (.app (.int .u8) 151 152), sd 5 (.mov 153)])
def z81_36 : LC := .block 3 z81_37
def z81_35 : LC := .seq z81_36 (.stm [2, 3, 5, 9] [sd 139 (.mov 9), sd 140 (.ari .add false 139 (ki 1)), sd 9 (.mov 140)])
def z81_32 : LC := .seq z81_33 z81_35
def z81_31 : LC := .loop z81_32
def z81_30 : LC := .block 2 z81_31
def z81_29 : LC := .seq (.stm [2, 3, 5, 9] [sd 133 (.mov 8), sd 9 (.mov 133)]) z81_30
def z81_28 : LC := .seq (.stm [2, 3, 5, 8] [sd 123 (.mov 5), sd 124 (.mov 8), sd 125 (.faddr 3 8), sd 126 (.load false 1 125), sd 127 (.len false 126), sd 128 (.mov 8), sd 129 (.ari .sub false 127 128), sd 130 (.bslice (.int .i64) [124, 129]), sd 131 (.call 21 [130]), sd 132 (.app (.int .u8) 123 131), sd 5 (.mov 132)]) z81_29
def z81_27 : LC := .seq (.stm [2, 3, 5, 8] [sd 120 (.mov 5), sd 121 (.bslice (.int .u8) [(.c (.int .u8 5))]), sd 122 (.app (.int .u8) 120 121), sd 5 (.mov 122)]) z81_28
def z81_20 : LC := .seq z81_21 z81_27
def z81_19 : LC := .seq (.stm [2, 3, 5, 8] [sd 8 (.mov (ki 0))]) z81_20
def z81_18 : LC := .cond 92 z81_19 .skip
def z81_17 : LC := .seq (.stm [2, 3, 5, 92] [sd 87 (.faddr 3 8), sd 88 (.load false 1 87), sd 89 (.faddr 2 8), sd 90 (.load false 1 89), sd 91 (.call 22 [88, 90]), sd 92 (.un .not 91)]) z81_18
def z81_44 : LC := .seq (.stm [3, 5, 12, 13, 14] [sd 165 (.mov 5), sd 166 (.bslice (.int .u8) [(.c (.int .u8 6))]), sd 167 (.app (.int .u8) 165 166), sd 5 (.mov 167)]) (.stm [3, 5, 12, 13, 14] [sd 168 (.mov 5), sd 169 (.mov 14), sd 170 (.ari .mul false (ki 2) 169), sd 171 (.ari .sub false 170 (ki 1)), sd 172 (.bslice (.int .i64) [171]), sd 173 (.call 21 [172]), sd 174 (.app (.int .u8) 168 173), sd 5 (.mov 174)])
def z81_43 : LC := .cond 164 z81_44 .skip
def z81_42 : LC := .seq (.stm [3, 5, 12, 13, 14, 164] [sd 163 (.mov 14), sd 164 (.cmp .gtr 163 (ki 0))]) z81_43
def z81_48 : LC := .seq (.stm [3, 5, 12, 13, 14] [sd 177 (.mov 5), sd 178 (.bslice (.int .u8) [(.c (.int .u8 6))]), sd 179 (.app (.int .u8) 177 178), sd 5 (.mov 179)]) (.stm [3, 5, 12, 13, 14] [sd 180 (.mov 5), sd 181 (.mov 14), sd 182 (.ari .mul false (ki (-2)) 181), sd 183 (.bslice (.int .i64) [182]), sd 184 (.call 21 [183]), sd 185 (.app (.int .u8) 180 184), sd 5 (.mov 185)])
def z81_47 : LC := .cond 176 z81_48 .skip
def z81_46 : LC := .seq (.stm [3, 5, 12, 13, 14, 176] [sd 175 (.mov 14), sd 176 (.cmp .lss 175 (ki 0))]) z81_47
def z81_59 : LC := .cond 195 .skip (.exit 4)
def z81_69 : LC := .cond 219 .skip (.exit 6)
def z81_68 : LC := .seq (.reg [5, 12, 13, 15, 16, 17, 18, 19, 193, 194, 219] [⟨0, some 204, none, .mov 19, false, false⟩, ⟨1, some 205, none, .mov 12, false, false⟩, ⟨2, some 206, none, .len false 205, false, false⟩, ⟨3, some 207, none, .cmp .lss 204 206, false, false⟩, ⟨4, some 208, none, .mov 207, false, false⟩, ⟨5, some 209, some (208, true), .mov 12, false, false⟩, ⟨6, some 210, some (208, true), .mov 18, false, false⟩, ⟨7, some 211, some (208, true), .ixS 1 209 210, false, false⟩, ⟨8, some 212, some (208, true), .load false 1 211, false, false⟩, ⟨9, some 213, some (208, true), .mov 13, false, false⟩, ⟨10, some 214, some (208, true), .mov 18, false, false⟩, ⟨11, some 215, some (208, true), .ixS 1 213 214, false, false⟩, ⟨12, some 216, some (208, true), .load false 1 215, false, false⟩, ⟨13, some 217, some (208, true), .call 45 [212, 216], false, true⟩, ⟨14, some 218, some (208, true), .un .not 217, false, false⟩, ⟨15, some 219, none, .pick 208 218 (.c (.bool false)), false, false⟩]) z81_69
def z81_76 : LC := .seq (.stm [5, 12, 13, 15, 16, 17, 193, 194] [sd 245 (.mov 18), sd 246 (.ari .add false 245 (ki 1)), sd 17 (.mov 246)]) (.exit 6)
def z81_75 : LC := .seq (.stm [5, 12, 13, 15, 16, 18, 193, 194] [sd 238 (.mov 16), sd 239 (.mov 18), sd 240 (.mov 17), sd 241 (.ari .sub false 239 240), sd 242 (.mov 19), sd 243 (.bslice (.int .i64) [241, 242]), sd 244 (.app (.int .i64) 238 243), sd 16 (.mov 244)]) z81_76
def z81_74 : LC := .seq (.stm [5, 12, 13, 15, 16, 17, 18, 19, 193, 194] [sd 231 (.mov 15), sd 232 (.mov 18), sd 233 (.mov 13), sd 234 (.mov 18), sd 235 (.ixS 1 233 234), sd 236 (.load false 1 235), sd 237 (.ixS 1 231 232), sn (.store 1 237 236)]) z81_75
def z81_73 : LC := .cond 230 z81_74 .skip
def z81_72 : LC := .seq (.reg [5, 12, 13, 15, 16, 17, 18, 19, 193, 194, 230] [⟨0, some 222, none, .mov 12, false, false⟩, ⟨1, some 223, none, .mov 19, false, false⟩, ⟨2, some 224, none, .ixS 1 222 223, false, false⟩, ⟨3, some 225, none, .load false 1 224, false, false⟩, ⟨4, some 226, none, .mov 13, false, false⟩, ⟨5, some 227, none, .mov 18, false, false⟩, ⟨6, some 228, none, .ixS 1 226 227, false, false⟩, ⟨7, some 229, none, .load false 1 228, false, false⟩, ⟨8, some 230, none, .call 45 [225, 229], false, true⟩]) z81_73
def z81_71 : LC := .block 7 z81_72
def z81_70 : LC := .seq z81_71 (.stm [5, 12, 13, 15, 16, 17, 18, 19, 193, 194] [sd 220 (.mov 19), sd 221 (.ari .add false 220 (ki 1)), sd 19 (.mov 221)])
def z81_67 : LC := .seq z81_68 z81_70
def z81_66 : LC := .loop z81_67
def z81_65 : LC := .block 6 z81_66
def z81_64 : LC := .seq (.stm [5, 12, 13, 15, 16, 17, 18, 19, 193, 194] [sd 19 (.mov (ki 0))]) z81_65
def z81_63 : LC := .seq (.stm [5, 12, 13, 15, 16, 17, 18, 193, 194] [sd 197 (.mov 15), sd 198 (.mov 18), sd 199 (.mov 12), sd 200 (.mov 18), sd 201 (.ixS 1 199 200), sd 202 (.load false 1 201), sd 203 (.ixS 1 197 198), sn (.store 1 203 202)]) z81_64
def z81_62 : LC := .seq (.stm [5, 12, 13, 15, 16, 17, 18, 193, 194] [sd 196 (.mov 194), sd 18 (.mov 196)]) z81_63
def z81_61 : LC := .block 5 z81_62
def z81_60 : LC := .seq z81_61 (.stm [5, 12, 13, 15, 16, 17, 193, 194] [sd 247 (.ari .add false 194 (ki 1)), sd 194 (.mov 247)])
def z81_58 : LC := .seq z81_59 z81_60
def z81_57 : LC := .seq (.stm [5, 12, 13, 15, 16, 17, 193, 194, 195] [sd 195 (.cmp .lss 194 193)]) z81_58
def z81_56 : LC := .loop z81_57
def z81_55 : LC := .block 4 z81_56
def z81_54 : LC := .seq (.stm [5, 12, 13, 15, 16, 17, 193, 194] [sd 192 (.mov 13), sd 193 (.len false 192), sd 194 (.mov (ki 0))]) z81_55
def z81_81 : LC := .seq (.stm [5, 13, 15, 16] [sd 254 (.mov 5), sd 255 (.mov 16), sd 256 (.len false 255), sd 257 (.ari .quo false 256 (ki 2)), sd 258 (.bslice (.int .i64) [257]), sd 259 (.call 21 [258]), sd 260 (.app (.int .u8) 254 259), sd 5 (.mov 260)]) (.stm [5, 13, 15] [sd 261 (.mov 5), sd 262 (.mov 16), sd 263 (.call 21 [262]), sd 264 (.app (.int .u8) 261 263), sd 5 (.mov 264)])
def z81_80 : LC := .seq (.stm [5, 13, 15, 16] [sd 251 (.mov 5), sd 252 (.bslice (.int .u8) [(.c (.int .u8 7))]), sd 253 (.app (.int .u8) 251 252), sd 5 (.mov 253)]) z81_81
def z81_79 : LC := .cond 250 z81_80 .skip
def z81_78 : LC := .seq (.stm [5, 13, 15, 16, 250] [sd 248 (.mov 16), sd 249 (.len false 248), sd 250 (.cmp .gtr 249 (ki 0))]) z81_79
def z81_82 : LC := .seq (.stm [4] [sd 265 (.mov 5), sd 266 (.mov 15), sd 267 (.mov 13), sd 268 (.call 46 [266, 267]), sd 269 (.app (.int .u8) 265 268), sd 4 (.mov 269)]) .ret
def z81_77 : LC := .seq z81_78 z81_82
def z81_53 : LC := .seq z81_54 z81_77
def z81_52 : LC := .seq (.stm [5, 12, 13, 15, 16, 17] [sd 17 (.mov (ki 0))]) z81_53
def z81_51 : LC := .seq (.stm [5, 12, 13, 15, 16] [sd 191 (.bslice (.int .i64) []), sd 16 (.mov 191)]) z81_52
def z81_50 : LC := .seq (.stm [5, 12, 13, 15] [sd 189 (.load true 9 3), sd 190 (.call 42 [189]), sd 15 (.mov 190)]) z81_51
def z81_49 : LC := .seq (.stm [3, 5, 12, 13] [sd 186 (.mov 12), sd 187 (.mov 14), sd 188 (.call 44 [186, 187]), sd 12 (.mov 188)]) z81_50
def z81_45 : LC := .seq z81_46 z81_49
def z81_41 : LC := .seq z81_42 z81_45
def z81_40 : LC := .seq (.stm [3, 5, 12, 13, 14] [sd 160 (.mov 12), sd 161 (.mov 13), sd 162 (.call 43 [160, 161]), sd 14 (.mov 162)]) z81_41
def z81_39 : LC := .seq (.stm [3, 5, 12, 13] [sd 158 (.load true 9 3), sd 159 (.call 42 [158]), sd 13 (.mov 159)]) z81_40
def z81_38 : LC := .seq (.stm [3, 5, 12] [sd 154 (.load true 9 2), sd 155 (.faddr 3 8), sd 156 (.load false 1 155), sd 157 (.call 41 [154, 156]), sd 12 (.mov 157)]) z81_39
def z81_16 : LC := .seq z81_17 z81_38
def z81_13 : LC := .seq z81_14 z81_16
def z81_8 : LC := .seq z81_9 z81_13
def z81_1 : LC := .seq z81_2 z81_8
def z81_0 : LC := .seq (.stm [2, 3, 5] [sd 20 (.bslice (.int .u8) []), sd 5 (.mov 20)]) z81_1
def z81 : LC := .seq (.stm [2, 3] [sd 2 (.box 0), sd 3 (.box 1), sd 4 (.mov (.c .nils))]) z81_0
theorem k_r18_Diff : chkFn Tryd.prog eqs0 17 z81 [.t 4] 270 = true := by kernel_rfl
def z82_3 : LC := .seq (.stm [2, 3] [sd 2 (.mov (.c .nils)), sd 3 (.mov (ki 1))]) .ret
def z82_2 : LC := .cond 8 z82_3 .skip
def z82_1 : LC := .seq (.stm [1, 8] [sd 6 (.load true 9 1), sd 7 (.call 16 [6]), sd 8 (.un .not 7)]) z82_2
def z82_5 : LC := .seq (.reg [2, 3] [⟨1, some 18, none, .faddr 1 0, false, false⟩, ⟨2, some 19, none, .load false 1 18, false, false⟩, ⟨3, some 20, none, .faddr 1 1, false, false⟩, ⟨4, some 21, none, .load false 1 20, false, false⟩, ⟨8, some 25, none, .load true 9 4, false, false⟩, ⟨9, some 26, none, .load true 9 1, false, false⟩, ⟨5, some 22, none, .bslice (.int .i64) [19, 21], false, false⟩, ⟨6, some 23, none, .call 21 [22], true, false⟩, ⟨0, some 17, none, .bslice (.int .u8) [(.c (.int .u8 1))], false, false⟩, ⟨7, some 24, none, .app (.int .u8) 17 23, true, true⟩, ⟨10, some 27, none, .call 17 [25, 26], false, true⟩, ⟨11, some 28, none, .app (.int .u8) 24 27, false, true⟩, ⟨12, some 2, none, .mov 28, false, false⟩, ⟨13, some 3, none, .mov (ki 0), false, false⟩]) .ret
def z82_4 : LC := .seq (.stm [1, 4] [sd 10 (.faddr 1 0), sd 11 (.load false 1 10), sd 12 (.faddr 1 1), sd 13 (.load false 1 12), sd 14 (.call 20 [11, 13]), sd 9 (.mov 14), sd 15 (.ext 9 0), sd 16 (.ext 9 1), sd 4 (.zero [.int .i64 0, .int .i64 0, .nils, .int .i64 0, .int .i64 0, .bool false, .int .u8 0, .str (bs []), .nils]), sn (.store 9 4 15), sd 5 (.mov 16)]) z82_5
def z82_0 : LC := .seq z82_1 z82_4
def z82 : LC := .seq (.stm [1] [sd 1 (.box 0), sd 2 (.mov (.c .nils)), sd 3 (.mov (ki 0))]) z82_0
theorem k_r18_Full : chkFn Tryd.prog eqs0 10 z82 [.t 2, .t 3] 29 = true := by kernel_rfl
def z83_3 : LC := .seq (.stm [4, 5] [sd 4 (.mov (.c .nils)), sd 5 (.mov (ki 1))]) .ret
def z83_2 : LC := .cond 13 z83_3 .skip
def z83_1 : LC := .seq (.stm [2, 3, 13] [sd 6 (.load true 9 2), sd 7 (.call 16 [6]), sd 8 (.un .not 7), sd 9 (.mov 8), .g 9 false [sd 10 (.load true 9 3), sd 11 (.call 16 [10]), sd 12 (.un .not 11)] 13 (.c (.bool true)) 12]) z83_2
def z83_7 : LC := .seq (.stm [4, 5] [sd 26 (.load true 9 3), sd 27 (.call 10 [26]), sd 28 (.ext 27 0), sd 29 (.ext 27 1), sd 4 (.mov 28), sd 5 (.mov 29)]) .ret
def z83_6 : LC := .cond 25 z83_7 .skip
def z83_5 : LC := .seq (.stm [2, 3, 25] [sd 14 (.faddr 2 0), sd 15 (.load false 1 14), sd 16 (.faddr 3 0), sd 17 (.load false 1 16), sd 18 (.cmp .neq 15 17), sd 19 (.mov 18), .g 19 false [sd 20 (.faddr 2 1), sd 21 (.load false 1 20), sd 22 (.faddr 3 1), sd 23 (.load false 1 22), sd 24 (.cmp .neq 21 23)] 25 (.c (.bool true)) 24]) z83_6
def z83_8 : LC := .seq (.stm [4, 5] [sd 30 (.load true 9 2), sd 31 (.load true 9 3), sd 32 (.call 17 [30, 31]), sd 4 (.mov 32), sd 5 (.mov (ki 0))]) .ret
def z83_4 : LC := .seq z83_5 z83_8
def z83_0 : LC := .seq z83_1 z83_4
def z83 : LC := .seq (.stm [2, 3] [sd 2 (.box 0), sd 3 (.box 1), sd 4 (.mov (.c .nils)), sd 5 (.mov (ki 0))]) z83_0
theorem k_r18_Encode : chkFn Tryd.prog eqs0 8 z83 [.t 4, .t 5] 33 = true := by kernel_rfl
end
section
open Go.RowKit
set_option maxRecDepth 100000
def z84_0 : LC := .seq (.stm [0] [sd 1 (.build [.int .i64 0, .int .i32 0, .int .u8 0, .int .u8 0] []), sd 2 (.box 1), sd 0 (.mov 2)]) .ret
def z84 : LC := .seq (.stm [] [sd 0 (.mov (.c .nilptr))]) z84_0
theorem k_utf_New : chkFn Tryd.prog eqs0 92 z84 [.t 0] 3 = true := by kernel_rfl
def z85_0 : LC := .seq (.stm [0] [sd 1 (.call 92 []), sd 2 (.build [.nilptr, .int .i64 0, .bool false, .int .u8 0, .bool false, .nils, .nils, .bool false] [(0, 1, 1)]), sd 3 (.box 2), sd 0 (.mov 3)]) .ret
def z85 : LC := .seq (.stm [] [sd 0 (.mov (.c .nilptr))]) z85_0
theorem k_parse_New : chkFn Tryd.prog eqs0 79 z85 [.t 0] 4 = true := by kernel_rfl
def z86_5 : LC := .cond 15 .skip (.exit 0)
def z86_8 : LC := .seq (.stm [0, 2, 14] [sd 16 (.mov 14), sd 2 (.mov 16)]) (.stm [0, 14] [sd 17 (.mov 0), sd 18 (.mov 2), sd 19 (.mov 2), sd 20 (.ari .rem false 19 (ki 8)), sd 21 (.cmp .eql 20 (ki 0)), sd 22 (.mov 21), .g 22 true [sd 23 (.mov 2), sd 24 (.cmp .gtr 23 (ki 0))] 25 24 (.c (.bool false)), sd 26 (.nilck 17), sd 27 (.faddr 26 23), sd 28 (.ixA 80 1 27 18), sn (.store 1 28 25)])
def z86_7 : LC := .block 1 z86_8
def z86_6 : LC := .seq z86_7 (.stm [0, 14] [sd 29 (.ari .add false 14 (ki 1)), sd 14 (.mov 29)])
def z86_4 : LC := .seq z86_5 z86_6
def z86_3 : LC := .seq (.stm [0, 14, 15] [sd 15 (.cmp .lss 14 (ki 80))]) z86_4
def z86_2 : LC := .loop z86_3
def z86_1 : LC := .block 0 z86_2
def z86_0 : LC := .seq (.stm [0, 14] [sd 14 (.mov (ki 0))]) z86_1
def z86 : LC := .seq (.stm [0] [sd 3 (.mov 0), sd 4 (.mov 0), sd 5 (.mov 0), sd 6 (.nilck 5), sd 7 (.faddr 6 8), sd 8 (.load false 1 7), sd 9 (.ari .sub false 8 (ki 1)), sd 10 (.nilck 3), sd 11 (.faddr 10 17), sn (.store 1 11 (ki 0)), sd 12 (.nilck 4), sd 13 (.faddr 12 18), sn (.store 1 13 9)]) z86_0
theorem k_emul_Term_frame : chkFn Tryd.prog eqs0 80 z86 [] 30 = true := by kernel_rfl
def z87_4 : LC := .seq (.stm [4, 5] [sd 19 (.mov 7), sd 4 (.mov (.c .nilptr)), sd 5 (.mov 19)]) .ret
def z87_3 : LC := .cond 18 z87_4 .skip
def z87_2 : LC := .seq (.stm [0, 1, 6, 7, 18] [sd 17 (.mov 7), sd 18 (.cmp .neq 17 (ki 0))]) z87_3
def z87_8 : LC := .seq (.stm [4, 5] [sd 36 (.mov 10), sd 4 (.mov 36), sd 5 (.mov (ki 0))]) .ret
def z87_7 : LC := .seq (.stm [10] [sd 34 (.mov 10), sd 35 (.call 80 [34])]) z87_8
def z87_6 : LC := .seq (.reg [10] [⟨0, some 26, none, .mov 0, false, false⟩, ⟨1, some 27, none, .mov 1, false, false⟩, ⟨2, some 28, none, .load true 3 6, false, false⟩, ⟨3, some 29, none, .load true 3 8, false, false⟩, ⟨4, some 30, none, .build [.int .i64 0, .int .i64 0, .nils, .int .i64 0, .int .i64 0, .nils] [(0, 3, 28), (3, 3, 29)], false, false⟩, ⟨5, some 31, none, .call 79 [], true, true⟩, ⟨6, some 32, none, .build ([.int .i64 0, .int .i64 0, .int .u32 0, .int .u32 0, .int .u8 0, .int .u16 0, .bool false, .int .i64 0, .int .i64 0, .int .i64 0, .int .i64 0, .nils, .int .i64 0, .int .i64 0, .nils, .int .i64 0, .bool false, .int .i64 0, .int .i64 0, .bool false, .bool false, .bool false, .int .u8 0] ++ List.replicate 80 (.bool false) ++ [.int .i64 0, .int .i64 0, .int .u32 0, .int .u32 0, .int .u8 0, .int .u16 0, .bool false, .str (bs []), .nils, .int .i32 0, .nilptr]) [(7, 1, 26), (8, 1, 27), (9, 6, 30), (19, 1, (.c (.bool true))), (113, 1, 31)], false, false⟩, ⟨7, some 33, none, .box 32, false, false⟩, ⟨8, some 10, none, .mov 33, false, false⟩]) z87_7
def z87_5 : LC := .seq (.stm [0, 1, 6, 8] [sd 21 (.mov 0), sd 22 (.mov 1), sd 23 (.call 78 [21, 22]), sd 20 (.mov 23), sd 24 (.ext 20 0), sd 25 (.ext 20 1), sd 8 (.zero [.int .i64 0, .int .i64 0, .nils]), sn (.store 3 8 24), sd 9 (.mov 25)]) z87_6
def z87_1 : LC := .seq z87_2 z87_5
def z87_0 : LC := .seq (.stm [0, 1, 6, 7] [sd 12 (.mov 0), sd 13 (.mov 1), sd 14 (.call 78 [12, 13]), sd 11 (.mov 14), sd 15 (.ext 11 0), sd 16 (.ext 11 1), sd 6 (.zero [.int .i64 0, .int .i64 0, .nils]), sn (.store 3 6 15), sd 7 (.mov 16)]) z87_1
def z87 : LC := .seq (.stm [0, 1] [sd 4 (.mov (.c .nilptr)), sd 5 (.mov (ki 0))]) z87_0
theorem k_emul_New : chkFn Tryd.prog eqs0 47 z87 [.t 4, .t 5] 37 = true := by kernel_rfl
def z88_0 : LC := .seq (.reg [2] [⟨0, some 3, none, .mov 0, false, false⟩, ⟨1, some 4, none, .mov 0, false, false⟩, ⟨2, some 5, none, .nilck 4, false, false⟩, ⟨3, some 6, none, .faddr 5 15, false, false⟩, ⟨4, some 7, none, .load false 1 6, false, false⟩, ⟨5, some 8, none, .nilck 3, false, false⟩, ⟨6, some 9, none, .faddr 8 9, false, false⟩, ⟨7, some 10, none, .ixA 2 3 9 7, false, false⟩, ⟨8, some 11, none, .load true 3 10, false, false⟩, ⟨9, none, none, .store 3 2 11, false, true⟩]) .ret
def z88 : LC := .seq (.stm [0, 2] [sd 2 (.zero [.int .i64 0, .int .i64 0, .nils])]) z88_0
theorem k_emul_Term_here : chkFn Tryd.prog eqs0 82 z88 [.c 2 true 3] 12 = true := by kernel_rfl
def z89_3 : LC := .seq (.stm [2] [sd 7 (.build [.int .i64 0, .int .i64 0, .nils, .int .i64 0, .int .i64 0, .bool false, .int .u8 0, .str (bs []), .nils] []), sn (.store 9 2 7)]) .ret
def z89_2 : LC := .cond 6 z89_3 .skip
def z89_1 : LC := .seq (.stm [0, 2, 6] [sd 5 (.mov 0), sd 6 (.cmpN 0 false 5)]) z89_2
def z89_5 : LC := .seq (.reg [2] [⟨0, some 19, none, .mov 0, false, false⟩, ⟨1, some 20, none, .nilck 19, false, false⟩, ⟨2, some 21, none, .faddr 20 7, false, false⟩, ⟨3, some 22, none, .load false 1 21, false, false⟩, ⟨4, some 23, none, .mov 0, false, false⟩, ⟨5, some 24, none, .nilck 23, false, false⟩, ⟨6, some 25, none, .faddr 24 8, false, false⟩, ⟨7, some 26, none, .load false 1 25, false, false⟩, ⟨8, some 27, none, .mov 3, false, false⟩, ⟨9, some 28, none, .mov 0, false, false⟩, ⟨10, some 29, none, .nilck 28, false, false⟩, ⟨11, some 30, none, .faddr 29 0, false, false⟩, ⟨12, some 31, none, .faddr 30 0, false, false⟩, ⟨13, some 32, none, .load false 1 31, false, false⟩, ⟨14, some 33, none, .mov 0, false, false⟩, ⟨15, some 34, none, .nilck 33, false, false⟩, ⟨16, some 35, none, .faddr 34 0, false, false⟩, ⟨17, some 36, none, .faddr 35 1, false, false⟩, ⟨18, some 37, none, .load false 1 36, false, false⟩, ⟨19, some 38, none, .mov 0, false, false⟩, ⟨20, some 39, none, .nilck 38, false, false⟩, ⟨21, some 40, none, .faddr 39 21, false, false⟩, ⟨22, some 41, none, .load false 1 40, false, false⟩, ⟨23, some 42, none, .mov 0, false, false⟩, ⟨24, some 43, none, .nilck 42, false, false⟩, ⟨25, some 44, none, .faddr 43 22, false, false⟩, ⟨26, some 45, none, .load false 1 44, false, false⟩, ⟨27, some 46, none, .mov 0, false, false⟩, ⟨28, some 47, none, .nilck 46, false, false⟩, ⟨29, some 48, none, .faddr 47 110, false, false⟩, ⟨30, some 49, none, .load false 1 48, false, false⟩, ⟨31, some 50, none, .mov 4, false, false⟩, ⟨32, some 51, none, .build [.int .i64 0, .int .i64 0, .nils, .int .i64 0, .int .i64 0, .bool false, .int .u8 0, .str (bs []), .nils] [(0, 1, 22), (1, 1, 26), (2, 1, 27), (3, 1, 32), (4, 1, 37), (5, 1, 41), (6, 1, 45), (7, 1, 49), (8, 1, 50)], false, false⟩, ⟨33, none, none, .store 9 2 51, false, true⟩]) .ret
def z89_4 : LC := .seq (.reg [0, 2, 3, 4] [⟨0, some 9, none, .mov 0, false, false⟩, ⟨3, some 12, none, .mov 0, false, false⟩, ⟨4, some 13, none, .nilck 12, false, false⟩, ⟨5, some 14, none, .faddr 13 111, false, false⟩, ⟨6, some 15, none, .load false 1 14, false, false⟩, ⟨1, some 10, none, .call 82 [9], true, true⟩, ⟨2, some 11, none, .field 10 2 1 false, false, false⟩, ⟨7, some 16, none, .call 81 [11, 15], false, true⟩, ⟨8, some 8, none, .mov 16, false, false⟩, ⟨9, some 17, none, .ext 8 0, false, false⟩, ⟨10, some 18, none, .ext 8 1, false, false⟩, ⟨11, some 3, none, .mov 17, false, false⟩, ⟨12, some 4, none, .mov 18, false, false⟩]) z89_5
def z89_0 : LC := .seq z89_1 z89_4
def z89 : LC := .seq (.stm [0, 2] [sd 2 (.zero [.int .i64 0, .int .i64 0, .nils, .int .i64 0, .int .i64 0, .bool false, .int .u8 0, .str (bs []), .nils])]) z89_0
theorem k_emul_Term_Screen : chkFn Tryd.prog eqs0 48 z89 [.c 2 true 9] 52 = true := by kernel_rfl
def z90_4 : LC := .seq (.stm [4, 5] [sd 16 (.build [.int .i64 0, .int .i64 0, .nils, .int .i64 0, .int .i64 0, .bool false, .int .u8 0, .str (bs []), .nils] []), sd 17 (.mov 7), sn (.store 9 4 16), sd 5 (.mov 17)]) .ret
def z90_3 : LC := .cond 15 z90_4 .skip
def z90_2 : LC := .seq (.stm [4, 6, 7, 15] [sd 14 (.mov 7), sd 15 (.cmp .neq 14 (ki 0))]) z90_3
def z90_5 : LC := .seq (.stm [4, 5] [sd 18 (.mov 6), sd 19 (.call 48 [18]), sn (.store 9 4 19), sd 5 (.mov (ki 0))]) .ret
def z90_1 : LC := .seq z90_2 z90_5
def z90_0 : LC := .seq (.stm [4, 6, 7] [sd 9 (.mov 0), sd 10 (.mov 1), sd 11 (.call 47 [9, 10]), sd 8 (.mov 11), sd 12 (.ext 8 0), sd 13 (.ext 8 1), sd 6 (.mov 12), sd 7 (.mov 13)]) z90_1
def z90 : LC := .seq (.stm [0, 1, 4] [sd 4 (.zero [.int .i64 0, .int .i64 0, .nils, .int .i64 0, .int .i64 0, .bool false, .int .u8 0, .str (bs []), .nils]), sd 5 (.mov (ki 0))]) z90_0
theorem k_project_Blank : chkFn Tryd.prog eqs0 18 z90 [.c 4 true 9, .t 5] 20 = true := by kernel_rfl
def z91_4 : LC := .seq (.stm [4, 5] [sd 16 (.build [.int .i64 0, .int .i64 0, .nils, .int .i64 0, .int .i64 0, .bool false, .int .u8 0, .str (bs []), .nils] []), sd 17 (.mov 7), sn (.store 9 4 16), sd 5 (.mov 17)]) .ret
def z91_3 : LC := .cond 15 z91_4 .skip
def z91_2 : LC := .seq (.stm [0, 1, 4, 6, 7, 15] [sd 14 (.mov 7), sd 15 (.cmp .neq 14 (ki 0))]) z91_3
def z91_5 : LC := .seq (.stm [4, 5] [sd 18 (.mov 0), sd 19 (.mov 1), sd 20 (.faddr 6 2), sd 21 (.load false 1 20), sd 22 (.build [.int .i64 0, .int .i64 0, .nils, .int .i64 0, .int .i64 0, .bool false, .int .u8 0, .str (bs []), .nils] [(0, 1, 18), (1, 1, 19), (2, 1, 21)]), sn (.store 9 4 22), sd 5 (.mov (ki 0))]) .ret
def z91_1 : LC := .seq z91_2 z91_5
def z91_0 : LC := .seq (.stm [0, 1, 4, 6, 7] [sd 9 (.mov 0), sd 10 (.mov 1), sd 11 (.call 50 [9, 10]), sd 8 (.mov 11), sd 12 (.ext 8 0), sd 13 (.ext 8 1), sd 6 (.zero [.int .i64 0, .int .i64 0, .nils]), sn (.store 3 6 12), sd 7 (.mov 13)]) z91_1
def z91 : LC := .seq (.stm [0, 1, 4] [sd 4 (.zero [.int .i64 0, .int .i64 0, .nils, .int .i64 0, .int .i64 0, .bool false, .int .u8 0, .str (bs []), .nils]), sd 5 (.mov (ki 0))]) z91_0
theorem k_r15_Blank : chkFn Tryd.prog eqs0 20 z91 [.c 4 true 9, .t 5] 23 = true := by kernel_rfl
end
section
open Go.RowKit
set_option maxRecDepth 100000
def z92_7 : LC := .cond 16 .skip (.exit 0)
def z92_9 : LC := .seq (.stm [0, 2, 3, 5, 6, 14] [sd 17 (.ext 15 1), sd 18 (.ext 15 2), sd 5 (.mov 17), sd 6 (.mov 18)]) (.stm [0, 2, 3, 14] [sd 19 (.faddr 3 2), sd 20 (.load false 1 19), sd 21 (.mov 5), sd 22 (.mov 6), sd 23 (.ixS 6 20 21), sd 24 (.faddr 23 0), sn (.store 1 24 22)])
def z92_8 : LC := .block 1 z92_9
def z92_6 : LC := .seq z92_7 z92_8
def z92_5 : LC := .seq (.stm [0, 2, 3, 14, 15, 16] [sd 15 (.nxt 14), sd 16 (.ext 15 0)]) z92_6
def z92_4 : LC := .loop z92_5
def z92_3 : LC := .block 0 z92_4
def z92_2 : LC := .seq (.stm [0, 2, 3, 14] [sd 13 (.mov 0), sd 14 (.rng 13)]) z92_3
def z92_11 : LC := .seq (.stm [2] [sd 29 (.load true 9 3), sn (.store 9 2 29)]) .ret
def z92_10 : LC := .seq (.stm [2, 3] [sd 25 (.mov 0), sd 26 (.len true 25), sd 27 (.ari .sub false 26 (ki 1)), sd 28 (.faddr 3 4), sn (.store 1 28 27)]) z92_11
def z92_1 : LC := .seq z92_2 z92_10
def z92_0 : LC := .seq (.stm [0, 2, 3] [sd 8 (.mov 0), sd 9 (.len true 8), sd 10 (.call 20 [(ki 1), 9]), sd 7 (.mov 10), sd 11 (.ext 7 0), sd 12 (.ext 7 1), sd 3 (.zero [.int .i64 0, .int .i64 0, .nils, .int .i64 0, .int .i64 0, .bool false, .int .u8 0, .str (bs []), .nils]), sn (.store 9 3 11), sd 4 (.mov 12)]) z92_1
def z92 : LC := .seq (.stm [0, 2] [sd 2 (.zero [.int .i64 0, .int .i64 0, .nils, .int .i64 0, .int .i64 0, .bool false, .int .u8 0, .str (bs []), .nils])]) z92_0
theorem k_l18_column : chkFn Tryd.prog eqs0 13 z92 [.c 2 true 9] 30 = true := by kernel_rfl
def z93_2 : LC := .seq (.stm [0] [sd 17 (.mov 2), sd 18 (.cmp .eql 17 (ki 0)), sd 19 (.mov 18), .g 19 true [sd 20 (.mov 4), sd 21 (.cmp .eql 20 (ki 0))] 22 21 (.c (.bool false)), sd 23 (.mov 22), .b 23 true [sd 24 (.mov 1), sd 25 (.bslice (.int .u8) [(.c (.int .u8 6)), (.c (.int .u8 1)), (.c (.int .u8 8)), (.c (.int .u8 1)), (.c (.int .u8 2)), (.c (.int .u8 1)), (.c (.int .u8 0)), (.c (.int .u8 0)), (.c (.int .u8 0)), (.c (.int .u8 0)), (.c (.int .u8 100))]), sd 26 (.call 11 [24, 25])] 27 26 (.c (.bool false)), sd 28 (.mov 27), .b 28 true [sd 29 (.mov 3), sd 30 (.bslice (.int .u8) [(.c (.int .u8 7)), (.c (.int .u8 1)), (.c (.int .u8 0)), (.c (.int .u8 1))]), sd 31 (.call 11 [29, 30])] 32 31 (.c (.bool false)), sd 0 (.mov 32)]) .ret
def z93_1 : LC := .seq (.stm [1, 2, 3, 4] [sd 12 (.call 13 [(.c (.str (bs [97, 98, 99])))]), sd 13 (.call 13 [(.c (.str (bs [98, 98, 99])))]), sd 14 (.call 7 [12, 13]), sd 11 (.mov 14), sd 15 (.ext 11 0), sd 16 (.ext 11 1), sd 3 (.mov 15), sd 4 (.mov 16)]) z93_2
def z93_0 : LC := .seq (.stm [1, 2] [sd 6 (.call 13 [(.c (.str (bs [97, 98, 99])))]), sd 7 (.call 13 [(.c (.str (bs [98, 99, 100])))]), sd 8 (.call 7 [6, 7]), sd 5 (.mov 8), sd 9 (.ext 5 0), sd 10 (.ext 5 1), sd 1 (.mov 9), sd 2 (.mov 10)]) z93_1
def z93 : LC := .seq (.stm [] [sd 0 (.mov (.c (.bool false)))]) z93_0
theorem k_l18_fixed : chkFn Tryd.prog eqs0 5 z93 [.t 0] 33 = true := by kernel_rfl
def z94_3 : LC := .seq (.stm [4] [sd 21 (.call 5 []), sd 4 (.mov 21)]) .ret
def z94_2 : LC := .cond 20 z94_3 .skip
def z94_1 : LC := .seq (.stm [2, 3, 20] [sd 15 (.load true 9 2), sd 16 (.call 4 [15]), sd 17 (.mov 16), .g 17 false [sd 18 (.load true 9 3), sd 19 (.call 4 [18])] 20 (.c (.bool true)) 19]) z94_2
def z94_9 : LC := .seq (.stm [4] [sd 48 (.call 5 []), sd 49 (.mov 48), .g 49 true [sd 50 (.mov 8), sd 51 (.mov 10), sd 52 (.cmp .eql 50 51)] 53 52 (.c (.bool false)), sd 54 (.mov 53), .g 54 true [sd 55 (.mov 7), sd 56 (.mov 9), sd 57 (.call 11 [55, 56])] 58 57 (.c (.bool false)), sd 59 (.mov 58), .g 59 true [sd 60 (.mov 12), sd 61 (.mov 14), sd 62 (.cmp .eql 60 61)] 63 62 (.c (.bool false)), sd 64 (.mov 63), .g 64 true [sd 65 (.mov 11), sd 66 (.mov 13), sd 67 (.call 11 [65, 66])] 68 67 (.c (.bool false)), sd 69 (.mov 68), .g 69 true [sd 70 (.load true 9 5), sd 71 (.load true 9 2), sd 72 (.call 12 [70, 71])] 73 72 (.c (.bool false)), sd 74 (.mov 73), .g 74 true [sd 75 (.load true 9 6), sd 76 (.load true 9 3), sd 77 (.call 12 [75, 76])] 78 77 (.c (.bool false)), sd 4 (.mov 78)]) .ret
def z94_8 : LC := .seq (.stm [2, 3, 5, 6, 7, 8, 9, 10, 11, 12, 13, 14] [sd 44 (.load true 9 3), sd 45 (.call 10 [44]), sd 43 (.mov 45), sd 46 (.ext 43 0), sd 47 (.ext 43 1), sd 13 (.mov 46), sd 14 (.mov 47)]) z94_9
def z94_7 : LC := .seq (.stm [2, 3, 5, 6, 7, 8, 9, 10, 11, 12] [sd 39 (.load true 9 6), sd 40 (.call 9 [39]), sd 38 (.mov 40), sd 41 (.ext 38 0), sd 42 (.ext 38 1), sd 11 (.mov 41), sd 12 (.mov 42)]) z94_8
def z94_6 : LC := .seq (.stm [2, 3, 5, 6, 7, 8, 9, 10] [sd 33 (.load true 9 2), sd 34 (.load true 9 3), sd 35 (.call 8 [33, 34]), sd 32 (.mov 35), sd 36 (.ext 32 0), sd 37 (.ext 32 1), sd 9 (.mov 36), sd 10 (.mov 37)]) z94_7
def z94_5 : LC := .seq (.stm [2, 3, 5, 6, 7, 8] [sd 27 (.load true 9 5), sd 28 (.load true 9 6), sd 29 (.call 7 [27, 28]), sd 26 (.mov 29), sd 30 (.ext 26 0), sd 31 (.ext 26 1), sd 7 (.mov 30), sd 8 (.mov 31)]) z94_6
def z94_4 : LC := .seq (.reg [2, 3, 5, 6] [⟨0, some 22, none, .load true 9 2, false, false⟩, ⟨2, some 24, none, .load true 9 3, false, false⟩, ⟨1, some 23, none, .call 6 [22], true, false⟩, ⟨3, some 25, none, .call 6 [24], false, false⟩, ⟨4, some 5, none, .zero [.int .i64 0, .int .i64 0, .nils, .int .i64 0, .int .i64 0, .bool false, .int .u8 0, .str (bs []), .nils], false, false⟩, ⟨5, some 6, none, .zero [.int .i64 0, .int .i64 0, .nils, .int .i64 0, .int .i64 0, .bool false, .int .u8 0, .str (bs []), .nils], false, false⟩, ⟨6, none, none, .store 9 5 23, false, true⟩, ⟨7, none, none, .store 9 6 25, false, true⟩]) z94_5
def z94_0 : LC := .seq z94_1 z94_4
def z94 : LC := .seq (.stm [2, 3] [sd 2 (.box 0), sd 3 (.box 1), sd 4 (.mov (.c (.bool false)))]) z94_0
theorem k_l18_MovesEncodes : chkFn Tryd.prog eqs0 3 z94 [.t 4] 79 = true := by kernel_rfl
end
end Go.Proofs.YtcfkfgkndncanaaDoor
