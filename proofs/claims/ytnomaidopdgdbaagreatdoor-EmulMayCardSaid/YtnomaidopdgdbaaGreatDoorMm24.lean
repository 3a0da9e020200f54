/- Texts of this claim, merged by a program of this claim: KLaw12. -/
import Derived.Test.YtnomaidopdgdbaaGreatDoorMm5
namespace Go.Proofs.YtnomaidopdgdbaaGreatDoor
set_option linter.unusedVariables false
set_option linter.unusedSimpArgs false
section
open Go.RowKit
set_option maxRecDepth 100000
def z81_4 : LC := .seq (.stm [0] [sd 0 (.mov (.c (.bool false)))]) .ret
def z81_3 : LC := .cond 14 z81_4 .skip
def z81_2 : LC := .seq (.stm [1, 14] [sd 9 (.mov 2), sd 10 (.cmp .neq 9 (ki 0)), sd 11 (.mov 10), .g 11 false [sd 12 (.mov 1), sd 13 (.cmpN 0 false 12)] 14 (.c (.bool true)) 13]) z81_3
def z81_9 : LC := .seq (.stm [0] [sd 27 (.faddr 3 2), sd 28 (.load false 1 27), sd 29 (.len false 28), sd 30 (.cmp .eql 29 (ki 8)), sd 31 (.mov 30), .g 31 true [sd 32 (.faddr 4 2), sd 33 (.load false 1 32), sd 34 (.len false 33), sd 35 (.cmp .eql 34 (ki 8))] 36 35 (.c (.bool false)), sd 37 (.mov 36), .g 37 true [sd 38 (.faddr 3 3), sd 39 (.load false 1 38), sd 40 (.cmp .eql 39 (ki 3))] 41 40 (.c (.bool false)), sd 42 (.mov 41), .g 42 true [sd 43 (.faddr 3 4), sd 44 (.load false 1 43), sd 45 (.cmp .eql 44 (ki 0))] 46 45 (.c (.bool false)), sd 47 (.mov 46), .g 47 true [sd 48 (.faddr 4 3), sd 49 (.load false 1 48), sd 50 (.cmp .eql 49 (ki 1))] 51 50 (.c (.bool false)), sd 52 (.mov 51), .g 52 true [sd 53 (.faddr 4 4), sd 54 (.load false 1 53), sd 55 (.cmp .eql 54 (ki 1))] 56 55 (.c (.bool false)), sd 57 (.mov 56), .g 57 true [sd 58 (.faddr 4 2), sd 59 (.load false 1 58), sd 60 (.ixS 6 59 (ki 3)), sd 61 (.faddr 60 0), sd 62 (.load false 1 61), sd 63 (.cmp .eql 62 (.c (.int .i32 100)))] 64 63 (.c (.bool false)), sd 65 (.mov 64), .g 65 true [sd 66 (.faddr 4 2), sd 67 (.load false 1 66), sd 68 (.ixS 6 67 (ki 4)), sd 69 (.faddr 68 0), sd 70 (.load false 1 69), sd 71 (.cmp .eql 70 (.c (.int .i32 101)))] 72 71 (.c (.bool false)), sd 73 (.mov 72), .g 73 true [sd 74 (.load true 9 3), sd 75 (.call 19 [74])] 76 75 (.c (.bool false)), sd 77 (.mov 76), .g 77 true [sd 78 (.build [.int .i64 0, .int .i64 0, .nils, .int .i64 0, .int .i64 0, .bool false, .int .u8 0, .str (bs []), .nils] []), sd 79 (.call 19 [78]), sd 80 (.un .not 79)] 81 80 (.c (.bool false)), sd 0 (.mov 81)]) .ret
def z81_8 : LC := .seq (.stm [3, 4] [sd 25 (.mov 1), sd 26 (.call 14 [25]), sd 4 (.zero [.int .i64 0, .int .i64 0, .nils, .int .i64 0, .int .i64 0, .bool false, .int .u8 0, .str (bs []), .nils]), sn (.store 9 4 26)]) z81_9
def z81_7 : LC := .seq (.stm [1, 3] [sd 21 (.mov 1), sd 22 (.bslice (.int .u8) [(.c (.int .u8 101))]), sd 23 (.frz 22), sd 24 (.call 21 [21, 23])]) z81_8
def z81_6 : LC := .seq (.stm [1, 3] [sd 19 (.mov 1), sd 20 (.call 14 [19]), sd 3 (.zero [.int .i64 0, .int .i64 0, .nils, .int .i64 0, .int .i64 0, .bool false, .int .u8 0, .str (bs []), .nils]), sn (.store 9 3 20)]) z81_7
def z81_5 : LC := .seq (.stm [1] [sd 15 (.mov 1), sd 16 (.bslice (.int .u8) [(.c (.int .u8 97)), (.c (.int .u8 98)), (.c (.int .u8 99)), (.c (.int .u8 100))]), sd 17 (.frz 16), sd 18 (.call 21 [15, 17])]) z81_6
def z81_1 : LC := .seq z81_2 z81_5
def z81_0 : LC := .seq (.stm [1, 2] [sd 6 (.call 30 [(ki 4), (ki 2)]), sd 5 (.mov 6), sd 7 (.ext 5 0), sd 8 (.ext 5 1), sd 1 (.mov 7), sd 2 (.mov 8)]) z81_1
def z81 : LC := .seq (.stm [] [sd 0 (.mov (.c (.bool false)))]) z81_0
theorem k_l12_fixed : chkFn Tryz.prog eqs0 17 z81 [.t 0] 82 = true := by kernel_rfl
def z82_3 : LC := .seq (.stm [2] [sd 20 (.call 17 []), sd 2 (.mov 20)]) .ret
def z82_2 : LC := .cond 19 z82_3 .skip
def z82_1 : LC := .seq (.stm [1, 19] [sd 4 (.faddr 1 2), sd 5 (.load false 1 4), sd 6 (.len false 5), sd 7 (.cmp .gtr 6 (ki 3000)), sd 8 (.mov 7), .g 8 false [sd 9 (.faddr 1 7), sd 10 (.load false 1 9), sd 11 (.len true 10), sd 12 (.cmp .gtr 11 (ki 1000))] 13 (.c (.bool true)) 12, sd 14 (.mov 13), .g 14 false [sd 15 (.faddr 1 8), sd 16 (.load false 1 15), sd 17 (.len false 16), sd 18 (.cmp .gtr 17 (ki 1000))] 19 (.c (.bool true)) 18]) z82_2
def z82_5 : LC := .seq (.reg [2] [⟨0, some 23, none, .call 17 [], false, true⟩, ⟨1, some 24, none, .mov 23, false, false⟩, ⟨2, some 25, some (24, true), .load true 9 3, false, false⟩, ⟨4, some 27, some (24, true), .load true 9 1, false, false⟩, ⟨3, some 26, some (24, true), .call 19 [25], true, true⟩, ⟨5, some 28, some (24, true), .call 20 [27], false, true⟩, ⟨6, some 29, some (24, true), .cmpB false 26 28, false, false⟩, ⟨7, some 30, none, .pick 24 29 (.c (.bool false)), false, false⟩, ⟨8, some 31, none, .mov 30, false, false⟩, ⟨9, some 32, some (31, true), .load true 9 3, false, false⟩, ⟨10, some 33, some (31, true), .load true 9 1, false, false⟩, ⟨11, some 34, some (31, true), .call 15 [32, 33], false, true⟩, ⟨12, some 35, none, .pick 31 34 (.c (.bool false)), false, false⟩, ⟨13, some 2, none, .mov 35, false, false⟩]) .ret
def z82_4 : LC := .seq (.stm [1, 3] [sd 21 (.load true 9 1), sd 22 (.call 18 [21]), sd 3 (.zero [.int .i64 0, .int .i64 0, .nils, .int .i64 0, .int .i64 0, .bool false, .int .u8 0, .str (bs []), .nils]), sn (.store 9 3 22)]) z82_5
def z82_0 : LC := .seq z82_1 z82_4
def z82 : LC := .seq (.stm [1] [sd 1 (.box 0), sd 2 (.mov (.c (.bool false)))]) z82_0
theorem k_l12_EmulMay : chkFn Tryz.prog eqs0 4 z82 [.t 2] 36 = true := by kernel_rfl
end
end Go.Proofs.YtnomaidopdgdbaaGreatDoor
