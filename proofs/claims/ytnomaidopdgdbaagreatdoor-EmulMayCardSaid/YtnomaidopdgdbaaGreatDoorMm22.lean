/- Texts of this claim, merged by a program of this claim: KBlank. -/
import Derived.Test.YtnomaidopdgdbaaGreatDoorMm5
namespace Go.Proofs.YtnomaidopdgdbaaGreatDoor
set_option linter.unusedVariables false
set_option linter.unusedSimpArgs false
section
open Go.RowKit
set_option maxRecDepth 100000
def z49_0 : LC := .seq (.stm [0] [sd 1 (.build [.int .i64 0, .int .i32 0, .int .u8 0, .int .u8 0] []), sd 2 (.box 1), sd 0 (.mov 2)]) .ret
def z49 : LC := .seq (.stm [] [sd 0 (.mov (.c .nilptr))]) z49_0
theorem k_utf_New : chkFn Tryz.prog eqs0 130 z49 [.t 0] 3 = true := by kernel_rfl
def z50_0 : LC := .seq (.stm [0] [sd 1 (.call 130 []), sd 2 (.build [.nilptr, .int .i64 0, .bool false, .int .u8 0, .bool false, .nils, .nils, .bool false] [(0, 1, 1)]), sd 3 (.box 2), sd 0 (.mov 3)]) .ret
def z50 : LC := .seq (.stm [] [sd 0 (.mov (.c .nilptr))]) z50_0
theorem k_parse_New : chkFn Tryz.prog eqs0 70 z50 [.t 0] 4 = true := by kernel_rfl
def z51_5 : LC := .cond 15 .skip (.exit 0)
def z51_8 : LC := .seq (.stm [0, 2, 14] [sd 16 (.mov 14), sd 2 (.mov 16)]) (.stm [0, 14] [sd 17 (.mov 0), sd 18 (.mov 2), sd 19 (.mov 2), sd 20 (.ari .rem false 19 (ki 8)), sd 21 (.cmp .eql 20 (ki 0)), sd 22 (.mov 21), .g 22 true [sd 23 (.mov 2), sd 24 (.cmp .gtr 23 (ki 0))] 25 24 (.c (.bool false)), sd 26 (.nilck 17), sd 27 (.faddr 26 23), sd 28 (.ixA 80 1 27 18), sn (.store 1 28 25)])
def z51_7 : LC := .block 1 z51_8
def z51_6 : LC := .seq z51_7 (.stm [0, 14] [sd 29 (.ari .add false 14 (ki 1)), sd 14 (.mov 29)])
def z51_4 : LC := .seq z51_5 z51_6
def z51_3 : LC := .seq (.stm [0, 14, 15] [sd 15 (.cmp .lss 14 (ki 80))]) z51_4
def z51_2 : LC := .loop z51_3
def z51_1 : LC := .block 0 z51_2
def z51_0 : LC := .seq (.stm [0, 14] [sd 14 (.mov (ki 0))]) z51_1
def z51 : LC := .seq (.stm [0] [sd 3 (.mov 0), sd 4 (.mov 0), sd 5 (.mov 0), sd 6 (.nilck 5), sd 7 (.faddr 6 8), sd 8 (.load false 1 7), sd 9 (.ari .sub false 8 (ki 1)), sd 10 (.nilck 3), sd 11 (.faddr 10 17), sn (.store 1 11 (ki 0)), sd 12 (.nilck 4), sd 13 (.faddr 12 18), sn (.store 1 13 9)]) z51_0
theorem k_emul_Term_frame : chkFn Tryz.prog eqs0 68 z51 [] 30 = true := by kernel_rfl
def z52_4 : LC := .seq (.stm [4, 5] [sd 19 (.mov 7), sd 4 (.mov (.c .nilptr)), sd 5 (.mov 19)]) .ret
def z52_3 : LC := .cond 18 z52_4 .skip
def z52_2 : LC := .seq (.stm [0, 1, 6, 7, 18] [sd 17 (.mov 7), sd 18 (.cmp .neq 17 (ki 0))]) z52_3
def z52_8 : LC := .seq (.stm [4, 5] [sd 36 (.mov 10), sd 4 (.mov 36), sd 5 (.mov (ki 0))]) .ret
def z52_7 : LC := .seq (.stm [10] [sd 34 (.mov 10), sd 35 (.call 68 [34])]) z52_8
def z52_6 : LC := .seq (.reg [10] [⟨0, some 26, none, .mov 0, false, false⟩, ⟨1, some 27, none, .mov 1, false, false⟩, ⟨2, some 28, none, .load true 3 6, false, false⟩, ⟨3, some 29, none, .load true 3 8, false, false⟩, ⟨4, some 30, none, .build [.int .i64 0, .int .i64 0, .nils, .int .i64 0, .int .i64 0, .nils] [(0, 3, 28), (3, 3, 29)], false, false⟩, ⟨5, some 31, none, .call 70 [], true, true⟩, ⟨6, some 32, none, .build ([.int .i64 0, .int .i64 0, .int .u32 0, .int .u32 0, .int .u8 0, .int .u16 0, .bool false, .int .i64 0, .int .i64 0, .int .i64 0, .int .i64 0, .nils, .int .i64 0, .int .i64 0, .nils, .int .i64 0, .bool false, .int .i64 0, .int .i64 0, .bool false, .bool false, .bool false, .int .u8 0] ++ List.replicate 80 (.bool false) ++ [.int .i64 0, .int .i64 0, .int .u32 0, .int .u32 0, .int .u8 0, .int .u16 0, .bool false, .str (bs []), .nils, .int .i32 0, .nilptr]) [(7, 1, 26), (8, 1, 27), (9, 6, 30), (19, 1, (.c (.bool true))), (113, 1, 31)], false, false⟩, ⟨7, some 33, none, .box 32, false, false⟩, ⟨8, some 10, none, .mov 33, false, false⟩]) z52_7
def z52_5 : LC := .seq (.stm [0, 1, 6, 8] [sd 21 (.mov 0), sd 22 (.mov 1), sd 23 (.call 66 [21, 22]), sd 20 (.mov 23), sd 24 (.ext 20 0), sd 25 (.ext 20 1), sd 8 (.zero [.int .i64 0, .int .i64 0, .nils]), sn (.store 3 8 24), sd 9 (.mov 25)]) z52_6
def z52_1 : LC := .seq z52_2 z52_5
def z52_0 : LC := .seq (.stm [0, 1, 6, 7] [sd 12 (.mov 0), sd 13 (.mov 1), sd 14 (.call 66 [12, 13]), sd 11 (.mov 14), sd 15 (.ext 11 0), sd 16 (.ext 11 1), sd 6 (.zero [.int .i64 0, .int .i64 0, .nils]), sn (.store 3 6 15), sd 7 (.mov 16)]) z52_1
def z52 : LC := .seq (.stm [0, 1] [sd 4 (.mov (.c .nilptr)), sd 5 (.mov (ki 0))]) z52_0
theorem k_emul_New : chkFn Tryz.prog eqs0 30 z52 [.t 4, .t 5] 37 = true := by kernel_rfl
def z53_0 : LC := .seq (.reg [2] [⟨0, some 3, none, .mov 0, false, false⟩, ⟨1, some 4, none, .mov 0, false, false⟩, ⟨2, some 5, none, .nilck 4, false, false⟩, ⟨3, some 6, none, .faddr 5 15, false, false⟩, ⟨4, some 7, none, .load false 1 6, false, false⟩, ⟨5, some 8, none, .nilck 3, false, false⟩, ⟨6, some 9, none, .faddr 8 9, false, false⟩, ⟨7, some 10, none, .ixA 2 3 9 7, false, false⟩, ⟨8, some 11, none, .load true 3 10, false, false⟩, ⟨9, none, none, .store 3 2 11, false, true⟩]) .ret
def z53 : LC := .seq (.stm [0, 2] [sd 2 (.zero [.int .i64 0, .int .i64 0, .nils])]) z53_0
theorem k_emul_Term_here : chkFn Tryz.prog eqs0 46 z53 [.c 2 true 3] 12 = true := by kernel_rfl
def z54_3 : LC := .seq (.stm [2] [sd 7 (.build [.int .i64 0, .int .i64 0, .nils, .int .i64 0, .int .i64 0, .bool false, .int .u8 0, .str (bs []), .nils] []), sn (.store 9 2 7)]) .ret
def z54_2 : LC := .cond 6 z54_3 .skip
def z54_1 : LC := .seq (.stm [0, 2, 6] [sd 5 (.mov 0), sd 6 (.cmpN 0 false 5)]) z54_2
def z54_5 : LC := .seq (.reg [2] [⟨0, some 19, none, .mov 0, false, false⟩, ⟨1, some 20, none, .nilck 19, false, false⟩, ⟨2, some 21, none, .faddr 20 7, false, false⟩, ⟨3, some 22, none, .load false 1 21, false, false⟩, ⟨4, some 23, none, .mov 0, false, false⟩, ⟨5, some 24, none, .nilck 23, false, false⟩, ⟨6, some 25, none, .faddr 24 8, false, false⟩, ⟨7, some 26, none, .load false 1 25, false, false⟩, ⟨8, some 27, none, .mov 3, false, false⟩, ⟨9, some 28, none, .mov 0, false, false⟩, ⟨10, some 29, none, .nilck 28, false, false⟩, ⟨11, some 30, none, .faddr 29 0, false, false⟩, ⟨12, some 31, none, .faddr 30 0, false, false⟩, ⟨13, some 32, none, .load false 1 31, false, false⟩, ⟨14, some 33, none, .mov 0, false, false⟩, ⟨15, some 34, none, .nilck 33, false, false⟩, ⟨16, some 35, none, .faddr 34 0, false, false⟩, ⟨17, some 36, none, .faddr 35 1, false, false⟩, ⟨18, some 37, none, .load false 1 36, false, false⟩, ⟨19, some 38, none, .mov 0, false, false⟩, ⟨20, some 39, none, .nilck 38, false, false⟩, ⟨21, some 40, none, .faddr 39 21, false, false⟩, ⟨22, some 41, none, .load false 1 40, false, false⟩, ⟨23, some 42, none, .mov 0, false, false⟩, ⟨24, some 43, none, .nilck 42, false, false⟩, ⟨25, some 44, none, .faddr 43 22, false, false⟩, ⟨26, some 45, none, .load false 1 44, false, false⟩, ⟨27, some 46, none, .mov 0, false, false⟩, ⟨28, some 47, none, .nilck 46, false, false⟩, ⟨29, some 48, none, .faddr 47 110, false, false⟩, ⟨30, some 49, none, .load false 1 48, false, false⟩, ⟨31, some 50, none, .mov 4, false, false⟩, ⟨32, some 51, none, .build [.int .i64 0, .int .i64 0, .nils, .int .i64 0, .int .i64 0, .bool false, .int .u8 0, .str (bs []), .nils] [(0, 1, 22), (1, 1, 26), (2, 1, 27), (3, 1, 32), (4, 1, 37), (5, 1, 41), (6, 1, 45), (7, 1, 49), (8, 1, 50)], false, false⟩, ⟨33, none, none, .store 9 2 51, false, true⟩]) .ret
def z54_4 : LC := .seq (.reg [0, 2, 3, 4] [⟨0, some 9, none, .mov 0, false, false⟩, ⟨3, some 12, none, .mov 0, false, false⟩, ⟨4, some 13, none, .nilck 12, false, false⟩, ⟨5, some 14, none, .faddr 13 111, false, false⟩, ⟨6, some 15, none, .load false 1 14, false, false⟩, ⟨1, some 10, none, .call 46 [9], true, true⟩, ⟨2, some 11, none, .field 10 2 1 false, false, false⟩, ⟨7, some 16, none, .call 45 [11, 15], false, true⟩, ⟨8, some 8, none, .mov 16, false, false⟩, ⟨9, some 17, none, .ext 8 0, false, false⟩, ⟨10, some 18, none, .ext 8 1, false, false⟩, ⟨11, some 3, none, .mov 17, false, false⟩, ⟨12, some 4, none, .mov 18, false, false⟩]) z54_5
def z54_0 : LC := .seq z54_1 z54_4
def z54 : LC := .seq (.stm [0, 2] [sd 2 (.zero [.int .i64 0, .int .i64 0, .nils, .int .i64 0, .int .i64 0, .bool false, .int .u8 0, .str (bs []), .nils])]) z54_0
theorem k_emul_Term_Screen : chkFn Tryz.prog eqs0 14 z54 [.c 2 true 9] 52 = true := by kernel_rfl
end
end Go.Proofs.YtnomaidopdgdbaaGreatDoor
