/- Texts of this claim, merged by a program of this claim: KBytes, KScr. -/
import Derived.Test.YtnomaidopdgdbaaGreatDoorMm5
namespace Go.Proofs.YtnomaidopdgdbaaGreatDoor
set_option linter.unusedVariables false
set_option linter.unusedSimpArgs false
section
open Go.RowKit
set_option maxRecDepth 100000
end
section
open Go.RowKit
set_option maxRecDepth 100000
def z45_3 : LC := .seq (.stm [2] [sd 2 (.mov (.c (.bool false)))]) .ret
def z45_2 : LC := .cond 63 z45_3 .skip
def z45_1 : LC := .seq (.stm [1, 63] [sd 5 (.faddr 1 0), sd 6 (.load false 1 5), sd 7 (.faddr 1 1), sd 8 (.load false 1 7), sd 9 (.faddr 1 2), sd 10 (.load false 1 9), sd 11 (.build [.int .i64 0, .int .i64 0, .nils] [(0, 1, 6), (1, 1, 8), (2, 1, 10)]), sd 12 (.call 51 [11]), sd 13 (.un .not 12), sd 14 (.mov 13), .g 14 false [sd 15 (.faddr 1 2), sd 16 (.load false 1 15), sd 17 (.faddr 1 8), sd 18 (.load false 1 17), sd 19 (.call 52 [16, 18]), sd 20 (.un .not 19)] 21 (.c (.bool true)) 20, sd 22 (.mov 21), .g 22 false [sd 23 (.faddr 1 3), sd 24 (.load false 1 23), sd 25 (.cmp .lss 24 (ki 0))] 26 (.c (.bool true)) 25, sd 27 (.mov 26), .g 27 false [sd 28 (.faddr 1 3), sd 29 (.load false 1 28), sd 30 (.faddr 1 0), sd 31 (.load false 1 30), sd 32 (.cmp .geq 29 31)] 33 (.c (.bool true)) 32, sd 34 (.mov 33), .g 34 false [sd 35 (.faddr 1 4), sd 36 (.load false 1 35), sd 37 (.cmp .lss 36 (ki 0))] 38 (.c (.bool true)) 37, sd 39 (.mov 38), .g 39 false [sd 40 (.faddr 1 4), sd 41 (.load false 1 40), sd 42 (.faddr 1 1), sd 43 (.load false 1 42), sd 44 (.cmp .geq 41 43)] 45 (.c (.bool true)) 44, sd 46 (.mov 45), .g 46 false [sd 47 (.faddr 1 6), sd 48 (.load false 1 47), sd 49 (.cmp .gtr 48 (.c (.int .u8 2)))] 50 (.c (.bool true)) 49, sd 51 (.mov 50), .g 51 false [sd 52 (.faddr 1 7), sd 53 (.load false 1 52), sd 54 (.len true 53), sd 55 (.cmp .gtr 54 (ki 64))] 56 (.c (.bool true)) 55, sd 57 (.mov 56), .b 57 false [sd 58 (.faddr 1 7), sd 59 (.load false 1 58), sd 60 (.s2b 59), sd 61 (.call 53 [60]), sd 62 (.un .not 61)] 63 (.c (.bool true)) 62]) z45_2
def z45_10 : LC := .cond 68 .skip (.exit 0)
def z45_15 : LC := .seq (.stm [2] [sd 2 (.mov (.c (.bool false)))]) .ret
def z45_14 : LC := .cond 72 z45_15 .skip
def z45_13 : LC := .seq (.stm [66, 72] [sd 70 (.mov 4), sd 71 (.call 54 [70]), sd 72 (.cmp .eql 71 (ki 0))]) z45_14
def z45_12 : LC := .seq (.stm [4, 66] [sd 69 (.ext 67 2), sd 4 (.mov 69)]) z45_13
def z45_11 : LC := .block 1 z45_12
def z45_9 : LC := .seq z45_10 z45_11
def z45_8 : LC := .seq (.stm [66, 67, 68] [sd 67 (.nxt 66), sd 68 (.ext 67 0)]) z45_9
def z45_7 : LC := .loop z45_8
def z45_6 : LC := .block 0 z45_7
def z45_5 : LC := .seq (.stm [66] [sd 64 (.faddr 1 7), sd 65 (.load false 1 64), sd 66 (.rng 65)]) z45_6
def z45_16 : LC := .seq (.stm [2] [sd 2 (.mov (.c (.bool true)))]) .ret
def z45_4 : LC := .seq z45_5 z45_16
def z45_0 : LC := .seq z45_1 z45_4
def z45 : LC := .seq (.stm [1] [sd 1 (.box 0), sd 2 (.mov (.c (.bool false)))]) z45_0
theorem k_emul_Right : chkFn Tryz.prog eqs0 19 z45 [.t 2] 73 = true := by kernel_rfl
def z46_4 : LC := .seq (.stm [2] [sd 2 (.mov (.c (.bool false)))]) .ret
def z46_3 : LC := .cond 19 z46_4 .skip
def z46_2 : LC := .seq (.stm [1, 19] [sd 18 (.mov 4), sd 19 (.un .not 18)]) z46_3
def z46_1 : LC := .seq (.stm [1, 4] [sd 8 (.faddr 1 0), sd 9 (.load false 1 8), sd 10 (.faddr 1 1), sd 11 (.load false 1 10), sd 12 (.faddr 1 2), sd 13 (.load false 1 12), sd 14 (.build [.int .i64 0, .int .i64 0, .nils] [(0, 1, 9), (1, 1, 11), (2, 1, 13)]), sd 15 (.call 55 [14]), sd 7 (.mov 15), sd 16 (.ext 7 0), sd 17 (.ext 7 1), sd 3 (.mov 16), sd 4 (.mov 17)]) z46_2
def z46_8 : LC := .seq (.stm [2] [sd 2 (.mov (.c (.bool false)))]) .ret
def z46_7 : LC := .cond 67 z46_8 .skip
def z46_6 : LC := .seq (.stm [1, 67] [sd 20 (.faddr 1 2), sd 21 (.load false 1 20), sd 22 (.faddr 1 8), sd 23 (.load false 1 22), sd 24 (.call 56 [21, 23]), sd 25 (.un .not 24), sd 26 (.mov 25), .g 26 false [sd 27 (.faddr 1 3), sd 28 (.load false 1 27), sd 29 (.cmp .lss 28 (ki 0))] 30 (.c (.bool true)) 29, sd 31 (.mov 30), .g 31 false [sd 32 (.faddr 1 3), sd 33 (.load false 1 32), sd 34 (.faddr 1 0), sd 35 (.load false 1 34), sd 36 (.cmp .geq 33 35)] 37 (.c (.bool true)) 36, sd 38 (.mov 37), .g 38 false [sd 39 (.faddr 1 4), sd 40 (.load false 1 39), sd 41 (.cmp .lss 40 (ki 0))] 42 (.c (.bool true)) 41, sd 43 (.mov 42), .g 43 false [sd 44 (.faddr 1 4), sd 45 (.load false 1 44), sd 46 (.faddr 1 1), sd 47 (.load false 1 46), sd 48 (.cmp .geq 45 47)] 49 (.c (.bool true)) 48, sd 50 (.mov 49), .g 50 false [sd 51 (.faddr 1 6), sd 52 (.load false 1 51), sd 53 (.cmp .gtr 52 (.c (.int .u8 2)))] 54 (.c (.bool true)) 53, sd 55 (.mov 54), .g 55 false [sd 56 (.faddr 1 7), sd 57 (.load false 1 56), sd 58 (.len true 57), sd 59 (.cmp .gtr 58 (ki 64))] 60 (.c (.bool true)) 59, sd 61 (.mov 60), .b 61 false [sd 62 (.faddr 1 7), sd 63 (.load false 1 62), sd 64 (.s2b 63), sd 65 (.call 57 [64]), sd 66 (.un .not 65)] 67 (.c (.bool true)) 66]) z46_7
def z46_16 : LC := .cond 75 .skip (.exit 0)
def z46_22 : LC := .seq (.stm [2] [sd 2 (.mov (.c (.bool false)))]) .ret
def z46_21 : LC := .cond 82 z46_22 .skip
def z46_20 : LC := .seq (.stm [5, 73, 74, 82] [sd 77 (.mov 5), sd 78 (.mov 6), sd 79 (.ixS 1 77 78), sd 80 (.load false 1 79), sd 81 (.call 22 [80]), sd 82 (.cmp .eql 81 (ki 0))]) z46_21
def z46_19 : LC := .seq (.stm [5, 6, 73, 74] [sd 76 (.mov 74), sd 6 (.mov 76)]) z46_20
def z46_18 : LC := .block 1 z46_19
def z46_17 : LC := .seq z46_18 (.stm [5, 73, 74] [sd 83 (.ari .add false 74 (ki 1)), sd 74 (.mov 83)])
def z46_15 : LC := .seq z46_16 z46_17
def z46_14 : LC := .seq (.stm [5, 73, 74, 75] [sd 75 (.cmp .lss 74 73)]) z46_15
def z46_13 : LC := .loop z46_14
def z46_12 : LC := .block 0 z46_13
def z46_11 : LC := .seq (.stm [5, 73, 74] [sd 72 (.mov 5), sd 73 (.len false 72), sd 74 (.mov (ki 0))]) z46_12
def z46_23 : LC := .seq (.stm [2] [sd 2 (.mov (.c (.bool true)))]) .ret
def z46_10 : LC := .seq z46_11 z46_23
def z46_9 : LC := .seq (.stm [5] [sd 68 (.faddr 1 7), sd 69 (.load false 1 68), sd 70 (.s2b 69), sd 71 (.call 58 [70]), sd 5 (.mov 71)]) z46_10
def z46_5 : LC := .seq z46_6 z46_9
def z46_0 : LC := .seq z46_1 z46_5
def z46 : LC := .seq (.stm [1] [sd 1 (.box 0), sd 2 (.mov (.c (.bool false)))]) z46_0
theorem k_r12_Right : chkFn Tryz.prog eqs0 20 z46 [.t 2] 84 = true := by kernel_rfl
def z47_2 : LC := .seq (.stm [2] [sd 13 (.load true 9 1), sn (.store 9 2 13)]) .ret
def z47_1 : LC := .seq (.stm [1, 2] [sd 8 (.bslice .str []), sd 9 (.faddr 1 8), sd 10 (.load false 1 9), sd 11 (.app .str 8 10), sd 12 (.faddr 1 8), sn (.store 1 12 11)]) z47_2
def z47_0 : LC := .seq (.stm [1, 2] [sd 3 (.bslice .cell []), sd 4 (.faddr 1 2), sd 5 (.load false 1 4), sd 6 (.app .cell 3 5), sd 7 (.faddr 1 2), sn (.store 1 7 6)]) z47_1
def z47 : LC := .seq (.stm [1, 2] [sd 1 (.box 0), sd 2 (.zero [.int .i64 0, .int .i64 0, .nils, .int .i64 0, .int .i64 0, .bool false, .int .u8 0, .str (bs []), .nils])]) z47_0
theorem k_r12_Copy : chkFn Tryz.prog eqs0 18 z47 [.c 2 true 9] 14 = true := by kernel_rfl
def z48_0 : LC := .seq (.stm [4] [sd 5 (.faddr 2 0), sd 6 (.load false 1 5), sd 7 (.faddr 3 0), sd 8 (.load false 1 7), sd 9 (.cmp .eql 6 8), sd 10 (.mov 9), .g 10 true [sd 11 (.faddr 2 1), sd 12 (.load false 1 11), sd 13 (.faddr 3 1), sd 14 (.load false 1 13), sd 15 (.cmp .eql 12 14)] 16 15 (.c (.bool false)), sd 17 (.mov 16), .g 17 true [sd 18 (.faddr 2 3), sd 19 (.load false 1 18), sd 20 (.faddr 3 3), sd 21 (.load false 1 20), sd 22 (.cmp .eql 19 21)] 23 22 (.c (.bool false)), sd 24 (.mov 23), .g 24 true [sd 25 (.faddr 2 4), sd 26 (.load false 1 25), sd 27 (.faddr 3 4), sd 28 (.load false 1 27), sd 29 (.cmp .eql 26 28)] 30 29 (.c (.bool false)), sd 31 (.mov 30), .g 31 true [sd 32 (.faddr 2 5), sd 33 (.load false 1 32), sd 34 (.faddr 3 5), sd 35 (.load false 1 34), sd 36 (.cmpB false 33 35)] 37 36 (.c (.bool false)), sd 38 (.mov 37), .g 38 true [sd 39 (.faddr 2 6), sd 40 (.load false 1 39), sd 41 (.faddr 3 6), sd 42 (.load false 1 41), sd 43 (.cmp .eql 40 42)] 44 43 (.c (.bool false)), sd 45 (.mov 44), .g 45 true [sd 46 (.faddr 2 7), sd 47 (.load false 1 46), sd 48 (.faddr 3 7), sd 49 (.load false 1 48), sd 50 (.cmp .eql 47 49)] 51 50 (.c (.bool false)), sd 52 (.mov 51), .g 52 true [sd 53 (.faddr 2 8), sd 54 (.load false 1 53), sd 55 (.faddr 3 8), sd 56 (.load false 1 55), sd 57 (.call 47 [54, 56])] 58 57 (.c (.bool false)), sd 59 (.mov 58), .g 59 true [sd 60 (.faddr 2 2), sd 61 (.load false 1 60), sd 62 (.build [.int .i64 0, .int .i64 0, .nils] [(2, 1, 61)]), sd 63 (.faddr 3 2), sd 64 (.load false 1 63), sd 65 (.build [.int .i64 0, .int .i64 0, .nils] [(2, 1, 64)]), sd 66 (.call 48 [62, 65])] 67 66 (.c (.bool false)), sd 4 (.mov 67)]) .ret
def z48 : LC := .seq (.stm [2, 3] [sd 2 (.box 0), sd 3 (.box 1), sd 4 (.mov (.c (.bool false)))]) z48_0
theorem k_r12_Same : chkFn Tryz.prog eqs0 15 z48 [.t 4] 68 = true := by kernel_rfl
end
end Go.Proofs.YtnomaidopdgdbaaGreatDoor
