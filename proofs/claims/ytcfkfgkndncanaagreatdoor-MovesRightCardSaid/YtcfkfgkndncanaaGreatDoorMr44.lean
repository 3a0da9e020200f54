/- Texts of this claim, merged by a program of this claim: KLawR. -/
import Derived.Test.YtcfkfgkndncanaaGreatDoorMr5
namespace Go.Proofs.YtcfkfgkndncanaaGreatDoor
set_option linter.unusedVariables false
set_option linter.unusedSimpArgs false
section
open Go.RowKit
set_option maxRecDepth 100000
def z96_3 : LC := .seq (.stm [4] [sd 14 (.call 8 []), sd 4 (.mov 14)]) .ret
def z96_2 : LC := .cond 13 z96_3 .skip
def z96_1 : LC := .seq (.stm [1, 2, 13] [sd 7 (.load true 9 2), sd 8 (.call 7 [7]), sd 9 (.mov 8), .g 9 false [sd 10 (.mov 1), sd 11 (.len false 10), sd 12 (.cmp .gtr 11 (ki 65536))] 13 (.c (.bool true)) 12]) z96_2
def z96_8 : LC := .seq (.stm [4] [sd 23 (.call 8 []), sd 24 (.mov 23), .g 24 true [sd 25 (.faddr 5 2), sd 26 (.load false 1 25), sd 27 (.len false 26), sd 28 (.cmp .eql 27 (ki 0))] 29 28 (.c (.bool false)), sd 4 (.mov 29)]) .ret
def z96_7 : LC := .cond 22 z96_8 .skip
def z96_6 : LC := .seq (.stm [5, 22] [sd 21 (.mov 6), sd 22 (.cmp .neq 21 (ki 0))]) z96_7
def z96_9 : LC := .seq (.stm [4] [sd 30 (.call 8 []), sd 31 (.mov 30), .g 31 true [sd 32 (.load true 9 5), sd 33 (.call 15 [32])] 34 33 (.c (.bool false)), sd 4 (.mov 34)]) .ret
def z96_5 : LC := .seq z96_6 z96_9
def z96_4 : LC := .seq (.stm [5, 6] [sd 16 (.load true 9 2), sd 17 (.mov 1), sd 18 (.call 11 [16, 17]), sd 15 (.mov 18), sd 19 (.ext 15 0), sd 20 (.ext 15 1), sd 5 (.zero [.int .i64 0, .int .i64 0, .nils, .int .i64 0, .int .i64 0, .bool false, .int .u8 0, .str (bs []), .nils]), sn (.store 9 5 19), sd 6 (.mov 20)]) z96_5
def z96_0 : LC := .seq z96_1 z96_4
def z96 : LC := .seq (.stm [1, 2] [sd 2 (.box 0), sd 4 (.mov (.c (.bool false)))]) z96_0
theorem k_l18_MovesRight : chkFn Tryz.prog eqs0 5 z96 [.t 4] 35 = true := by kernel_rfl
end
end Go.Proofs.YtcfkfgkndncanaaGreatDoor
