/- Texts of this claim, merged by a program of this claim: KRead. -/
import Derived.Test.YtcfkfgkndncanaaGreatDoorMt5
namespace Go.Proofs.YtcfkfgkndncanaaGreatDoor
set_option linter.unusedVariables false
set_option linter.unusedSimpArgs false
section
open Go.RowKit
set_option maxRecDepth 100000
def z0_0:LC:=.seq (.stm [2] [sd 3 (.mov 0),sd 4 (.app (.int .u8) (.c .nils) 3),sd 5 (.build [.nils,.int .i64 0,.int .i64 0] [(0,1,4)]),sd 6 (.box 5),sd 2 (.mov 6)]) .ret
def z0:LC:=.seq (.stm [0] [sd 2 (.mov (.c .nilptr))]) z0_0
theorem jkB:jaL Tryz.prog eqs0 26 z0 [.t 2] 7=true:=by kernel_rfl
def z1_3:LC:=.seq (.stm [2] [sd 2 (.mov (ki 0))]) .ret
def z1_2:LC:=.cond 4 z1_3 .skip
def z1_1:LC:=.seq (.stm [0,4] [sd 3 (.mov 0),sd 4 (.cmpN 0 false 3)]) z1_2
def z1_4:LC:=.seq (.reg [2] [⟨0,some 5,none,.mov 0,false,false⟩,⟨1,some 6,none,.nilck 5,false,false⟩,⟨2,some 7,none,.faddr 6 0,false,false⟩,⟨3,some 8,none,.load false 1 7,false,false⟩,⟨4,some 9,none,.len false 8,false,false⟩,⟨5,some 10,none,.mov 0,false,false⟩,⟨6,some 11,none,.nilck 10,false,false⟩,⟨7,some 12,none,.faddr 11 1,false,false⟩,⟨8,some 13,none,.load false 1 12,false,false⟩,⟨9,some 14,none,.ari .sub false 9 13,false,false⟩,⟨10,some 2,none,.mov 14,false,false⟩]) .ret
def z1_0:LC:=.seq z1_1 z1_4
def z1:LC:=.seq (.stm [0] [sd 2 (.mov (ki 0))]) z1_0
theorem jev:jaL Tryz.prog eqs0 27 z1 [.t 2] 15=true:=by kernel_rfl
def z2_4:LC:=.seq (.stm [4] [sd 4 (.mov (.c (.int .u64 0)))]) .ret
def z2_8:LC:=.seq (.stm [4] [sd 4 (.mov (.c (.int .u64 0)))]) .ret
def z2_7:LC:=.seq (.stm [] [sd 23 (.mov 0),sd 24 (.nilck 23),sd 25 (.faddr 24 2),sn (.store 1 25 (ki 1))]) z2_8
def z2_12:LC:=.seq (.stm [4] [sd 4 (.mov (.c (.int .u64 0)))]) .ret
def z2_11:LC:=.seq (.stm [] [sd 39 (.mov 0),sd 40 (.nilck 39),sd 41 (.faddr 40 2),sn (.store 1 41 (ki 2))]) z2_12
def z2_10:LC:=.cond 26 z2_11 .skip
def z2_9:LC:=.seq (.reg [0,1,26] [⟨0,some 27,none,.mov 0,false,false⟩,⟨1,some 28,none,.nilck 27,false,false⟩,⟨2,some 29,none,.faddr 28 0,false,false⟩,⟨3,some 30,none,.load false 1 29,false,false⟩,⟨4,some 31,none,.len false 30,false,false⟩,⟨5,some 32,none,.mov 0,false,false⟩,⟨6,some 33,none,.nilck 32,false,false⟩,⟨7,some 34,none,.faddr 33 1,false,false⟩,⟨8,some 35,none,.load false 1 34,false,false⟩,⟨9,some 36,none,.ari .sub false 31 35,false,false⟩,⟨10,some 37,none,.mov 1,false,false⟩,⟨11,some 38,none,.cmp .lss 36 37,false,false⟩,⟨12,some 26,none,.mov 38,false,false⟩]) z2_10
def z2_6:LC:=.cond 16 z2_7 z2_9
def z2_5:LC:=.seq (.stm [0,1,16] [sd 17 (.mov 1),sd 18 (.cmp .lss 17 (ki 1)),sd 19 (.mov 18),.g 19 false [sd 20 (.mov 1),sd 21 (.cmp .gtr 20 (ki 8))] 22 (.c (.bool true)) 21,sd 16 (.mov 22)]) z2_6
def z2_3:LC:=.cond 6 z2_4 z2_5
def z2_2:LC:=.seq (.stm [0,1,6] [sd 7 (.mov 0),sd 8 (.cmpN 0 false 7),sd 9 (.mov 8),.g 9 false [sd 10 (.mov 0),sd 11 (.nilck 10),sd 12 (.faddr 11 2),sd 13 (.load false 1 12),sd 14 (.cmp .neq 13 (ki 0))] 15 (.c (.bool true)) 14,sd 6 (.mov 15)]) z2_3
def z2_1:LC:=.block 0 z2_2
def z2_20:LC:=.cond 44 .skip (.exit 1)
def z2_23:LC:=.seq (.reg [0,5,42,43] [⟨0,some 45,none,.mov 5,false,false⟩,⟨1,some 46,none,.ari .shl true 45 (.c (.int .u64 8)),false,false⟩,⟨2,some 47,none,.mov 0,false,false⟩,⟨3,some 48,none,.nilck 47,false,false⟩,⟨4,some 49,none,.faddr 48 0,false,false⟩,⟨5,some 50,none,.load false 1 49,false,false⟩,⟨6,some 51,none,.mov 0,false,false⟩,⟨7,some 52,none,.nilck 51,false,false⟩,⟨8,some 53,none,.faddr 52 1,false,false⟩,⟨9,some 54,none,.load false 1 53,false,false⟩,⟨10,some 55,none,.ixS 1 50 54,false,false⟩,⟨11,some 56,none,.load false 1 55,false,false⟩,⟨12,some 57,none,.conv .u64 false 56,false,false⟩,⟨13,some 58,none,.ari .or false 46 57,false,false⟩,⟨14,some 5,none,.mov 58,false,false⟩]) (.stm [0,5,42,43] [sd 59 (.mov 0),sd 60 (.nilck 59),sd 61 (.faddr 60 1),sd 62 (.load false 1 61),sd 63 (.ari .add false 62 (ki 1)),sd 64 (.nilck 59),sd 65 (.faddr 64 1),sn (.store 1 65 63)])
def z2_22:LC:=.block 2 z2_23
def z2_21:LC:=.seq z2_22 (.stm [0,5,42,43] [sd 66 (.ari .add false 43 (ki 1)),sd 43 (.mov 66)])
def z2_19:LC:=.seq z2_20 z2_21
def z2_18:LC:=.seq (.stm [0,5,42,43,44] [sd 44 (.cmp .lss 43 42)]) z2_19
def z2_17:LC:=.loop z2_18
def z2_16:LC:=.block 1 z2_17
def z2_15:LC:=.seq (.stm [0,5,42,43] [sd 42 (.mov 1),sd 43 (.mov (ki 0))]) z2_16
def z2_24:LC:=.seq (.stm [4] [sd 67 (.mov 5),sd 4 (.mov 67)]) .ret
def z2_14:LC:=.seq z2_15 z2_24
def z2_13:LC:=.seq (.stm [0,1,5] [sd 5 (.mov (.c (.int .u64 0)))]) z2_14
def z2_0:LC:=.seq z2_1 z2_13
def z2:LC:=.seq (.stm [0,1] [sd 4 (.mov (.c (.int .u64 0)))]) z2_0
theorem jeP:jaL Tryz.prog eqs0 28 z2 [.t 4] 68=true:=by kernel_rfl
def z3_3:LC:=.seq (.stm [2] [sd 2 (.mov (.c (.int .u64 0)))]) .ret
def z3_2:LC:=.cond 14 z3_3 .skip
def z3_1:LC:=.seq (.stm [0,14] [sd 6 (.mov 0),sd 7 (.cmpN 0 false 6),sd 8 (.mov 7),.g 8 false [sd 9 (.mov 0),sd 10 (.nilck 9),sd 11 (.faddr 10 2),sd 12 (.load false 1 11),sd 13 (.cmp .neq 12 (ki 0))] 14 (.c (.bool true)) 13]) z3_2
def z3_14:LC:=.seq (.stm [2] [sd 2 (.mov (.c (.int .u64 0)))]) .ret
def z3_13:LC:=.seq (.stm [] [sd 29 (.mov 0),sd 30 (.nilck 29),sd 31 (.faddr 30 2),sn (.store 1 31 (ki 2))]) z3_14
def z3_12:LC:=.cond 28 z3_13 .skip
def z3_11:LC:=.seq (.reg [0,3,4,28] [⟨0,some 17,none,.mov 0,false,false⟩,⟨1,some 18,none,.nilck 17,false,false⟩,⟨2,some 19,none,.faddr 18 1,false,false⟩,⟨3,some 20,none,.load false 1 19,false,false⟩,⟨4,some 21,none,.mov 4,false,false⟩,⟨5,some 22,none,.ari .add false 20 21,false,false⟩,⟨6,some 23,none,.mov 0,false,false⟩,⟨7,some 24,none,.nilck 23,false,false⟩,⟨8,some 25,none,.faddr 24 0,false,false⟩,⟨9,some 26,none,.load false 1 25,false,false⟩,⟨10,some 27,none,.len false 26,false,false⟩,⟨11,some 28,none,.cmp .geq 22 27,false,false⟩]) z3_12
def z3_20:LC:=.seq (.stm [2] [sd 2 (.mov (.c (.int .u64 0)))]) .ret
def z3_19:LC:=.seq (.stm [] [sd 58 (.mov 0),sd 59 (.nilck 58),sd 60 (.faddr 59 2),sn (.store 1 60 (ki 3))]) z3_20
def z3_18:LC:=.cond 57 z3_19 .skip
def z3_17:LC:=.seq (.stm [0,3,4,5,57] [sd 44 (.mov 4),sd 45 (.cmp .eql 44 (ki 9)),sd 46 (.mov 45),.g 46 true [sd 47 (.mov 5),sd 48 (.cmp .gtr 47 (.c (.int .u8 1)))] 49 48 (.c (.bool false)),sd 50 (.mov 49),.g 50 false [sd 51 (.mov 4),sd 52 (.cmp .gtr 51 (ki 0)),sd 53 (.mov 52),.g 53 true [sd 54 (.mov 5),sd 55 (.cmp .eql 54 (.c (.int .u8 0)))] 56 55 (.c (.bool false))] 57 (.c (.bool true)) 56]) z3_18
def z3_25:LC:=.seq (.stm [2] [sd 81 (.mov 3),sd 2 (.mov 81)]) .ret
def z3_24:LC:=.seq (.stm [3] [sd 72 (.mov 0),sd 73 (.nilck 72),sd 74 (.faddr 73 1),sd 75 (.load false 1 74),sd 76 (.mov 4),sd 77 (.ari .add false 76 (ki 1)),sd 78 (.ari .add false 75 77),sd 79 (.nilck 72),sd 80 (.faddr 79 1),sn (.store 1 80 78)]) z3_25
def z3_23:LC:=.cond 71 z3_24 .skip
def z3_22:LC:=.seq (.stm [0,3,4,71] [sd 70 (.mov 5),sd 71 (.cmp .lss 70 (.c (.int .u8 128)))]) z3_23
def z3_21:LC:=.seq (.stm [0,3,4,5] [sd 61 (.mov 3),sd 62 (.mov 5),sd 63 (.ari .and false 62 (.c (.int .u8 127))),sd 64 (.conv .u64 false 63),sd 65 (.mov 4),sd 66 (.ari .mul false (ki 7) 65),sd 67 (.conv .u64 true 66),sd 68 (.ari .shl true 64 67),sd 69 (.ari .or false 61 68),sd 3 (.mov 69)]) z3_22
def z3_16:LC:=.seq z3_17 z3_21
def z3_15:LC:=.seq (.reg [0,3,4,5] [⟨0,some 32,none,.mov 0,false,false⟩,⟨1,some 33,none,.nilck 32,false,false⟩,⟨2,some 34,none,.faddr 33 0,false,false⟩,⟨3,some 35,none,.load false 1 34,false,false⟩,⟨4,some 36,none,.mov 0,false,false⟩,⟨5,some 37,none,.nilck 36,false,false⟩,⟨6,some 38,none,.faddr 37 1,false,false⟩,⟨7,some 39,none,.load false 1 38,false,false⟩,⟨8,some 40,none,.mov 4,false,false⟩,⟨9,some 41,none,.ari .add false 39 40,false,false⟩,⟨10,some 42,none,.ixS 1 35 41,false,false⟩,⟨11,some 43,none,.load false 1 42,false,false⟩,⟨12,some 5,none,.mov 43,false,false⟩]) z3_16
def z3_10:LC:=.seq z3_11 z3_15
def z3_9:LC:=.block 1 z3_10
def z3_8:LC:=.seq z3_9 (.stm [0,3,4] [sd 15 (.mov 4),sd 16 (.ari .add false 15 (ki 1)),sd 4 (.mov 16)])
def z3_7:LC:=.loop z3_8
def z3_6:LC:=.block 0 z3_7
def z3_5:LC:=.seq (.stm [0,3,4] [sd 4 (.mov (ki 0))]) z3_6
def z3_4:LC:=.seq (.stm [0,3] [sd 3 (.mov (.c (.int .u64 0)))]) z3_5
def z3_0:LC:=.seq z3_1 z3_4
def z3:LC:=.seq (.stm [0] [sd 2 (.mov (.c (.int .u64 0)))]) z3_0
theorem jbV:jaL Tryz.prog eqs0 60 z3 [.t 2] 82=true:=by kernel_rfl
def z4_3:LC:=.seq (.stm [2] [sd 2 (.mov (ki 1))]) .ret
def z4_2:LC:=.cond 4 z4_3 .skip
def z4_1:LC:=.seq (.stm [0,4] [sd 3 (.mov 0),sd 4 (.cmpN 0 false 3)]) z4_2
def z4_4:LC:=.seq (.stm [2] [sd 5 (.mov 0),sd 6 (.nilck 5),sd 7 (.faddr 6 2),sd 8 (.load false 1 7),sd 2 (.mov 8)]) .ret
def z4_0:LC:=.seq z4_1 z4_4
def z4:LC:=.seq (.stm [0] [sd 2 (.mov (ki 0))]) z4_0
theorem jdb:jaL Tryz.prog eqs0 101 z4 [.t 2] 9=true:=by kernel_rfl
def z5_4:LC:=.seq (.stm [4] [sd 4 (.mov (.c .nils))]) .ret
def z5_8:LC:=.seq (.stm [4] [sd 4 (.mov (.c .nils))]) .ret
def z5_7:LC:=.seq (.stm [] [sd 19 (.mov 0),sd 20 (.nilck 19),sd 21 (.faddr 20 2),sn (.store 1 21 (ki 1))]) z5_8
def z5_12:LC:=.seq (.stm [4] [sd 4 (.mov (.c .nils))]) .ret
def z5_11:LC:=.seq (.stm [] [sd 35 (.mov 0),sd 36 (.nilck 35),sd 37 (.faddr 36 2),sn (.store 1 37 (ki 2))]) z5_12
def z5_10:LC:=.cond 22 z5_11 .skip
def z5_9:LC:=.seq (.reg [0,1,22] [⟨0,some 23,none,.mov 0,false,false⟩,⟨1,some 24,none,.nilck 23,false,false⟩,⟨2,some 25,none,.faddr 24 0,false,false⟩,⟨3,some 26,none,.load false 1 25,false,false⟩,⟨4,some 27,none,.len false 26,false,false⟩,⟨5,some 28,none,.mov 0,false,false⟩,⟨6,some 29,none,.nilck 28,false,false⟩,⟨7,some 30,none,.faddr 29 1,false,false⟩,⟨8,some 31,none,.load false 1 30,false,false⟩,⟨9,some 32,none,.ari .sub false 27 31,false,false⟩,⟨10,some 33,none,.mov 1,false,false⟩,⟨11,some 34,none,.cmp .lss 32 33,false,false⟩,⟨12,some 22,none,.mov 34,false,false⟩]) z5_10
def z5_6:LC:=.cond 16 z5_7 z5_9
def z5_5:LC:=.seq (.stm [0,1,16] [sd 17 (.mov 1),sd 18 (.cmp .lss 17 (ki 0)),sd 16 (.mov 18)]) z5_6
def z5_3:LC:=.cond 6 z5_4 z5_5
def z5_2:LC:=.seq (.stm [0,1,6] [sd 7 (.mov 0),sd 8 (.cmpN 0 false 7),sd 9 (.mov 8),.g 9 false [sd 10 (.mov 0),sd 11 (.nilck 10),sd 12 (.faddr 11 2),sd 13 (.load false 1 12),sd 14 (.cmp .neq 13 (ki 0))] 15 (.c (.bool true)) 14,sd 6 (.mov 15)]) z5_3
def z5_1:LC:=.block 0 z5_2
def z5_15:LC:=.seq (.stm [4] [sd 62 (.mov 5),sd 4 (.mov 62)]) .ret
def z5_14:LC:=.seq (.stm [5] [sd 54 (.mov 0),sd 55 (.nilck 54),sd 56 (.faddr 55 1),sd 57 (.load false 1 56),sd 58 (.mov 1),sd 59 (.ari .add false 57 58),sd 60 (.nilck 54),sd 61 (.faddr 60 1),sn (.store 1 61 59)]) z5_15
def z5_13:LC:=.seq (.reg [0,1,5] [⟨0,some 38,none,.mov 0,false,false⟩,⟨1,some 39,none,.nilck 38,false,false⟩,⟨2,some 40,none,.faddr 39 0,false,false⟩,⟨3,some 41,none,.load false 1 40,false,false⟩,⟨4,some 42,none,.mov 0,false,false⟩,⟨5,some 43,none,.nilck 42,false,false⟩,⟨6,some 44,none,.faddr 43 1,false,false⟩,⟨7,some 45,none,.load false 1 44,false,false⟩,⟨8,some 46,none,.mov 0,false,false⟩,⟨9,some 47,none,.nilck 46,false,false⟩,⟨10,some 48,none,.faddr 47 1,false,false⟩,⟨11,some 49,none,.load false 1 48,false,false⟩,⟨12,some 50,none,.mov 1,false,false⟩,⟨13,some 51,none,.ari .add false 49 50,false,false⟩,⟨14,some 52,none,.sl false 1 41 (some 45) (some 51) none,false,false⟩,⟨15,some 53,none,.app (.int .u8) (.c .nils) 52,false,true⟩,⟨16,some 5,none,.mov 53,false,false⟩]) z5_14
def z5_0:LC:=.seq z5_1 z5_13
def z5:LC:=.seq (.stm [0,1] [sd 4 (.mov (.c .nils))]) z5_0
theorem jew:jaL Tryz.prog eqs0 102 z5 [.t 4] 63=true:=by kernel_rfl
def z6_3:LC:=.seq (.stm [4] [sd 4 (.mov (.c .nils))]) .ret
def z6_2:LC:=.cond 8 z6_3 .skip
def z6_1:LC:=.seq (.stm [0,1,8] [sd 7 (.mov 0),sd 8 (.cmpN 0 false 7)]) z6_2
def z6_14:LC:=.seq (.stm [4] [sd 15 (.mov 0),sd 16 (.mov 6),sd 17 (.conv .i64 true 16),sd 18 (.call 102 [15,17]),sd 4 (.mov 18)]) .ret
def z6_13:LC:=.cond 37 (.stm [0,5] [sd 51 (.mov 0),sd 52 (.nilck 51),sd 53 (.faddr 52 2),sn (.store 1 53 (ki 2))]) z6_14
def z6_12:LC:=.seq (.reg [0,5,6,37] [⟨0,some 38,none,.mov 6,false,false⟩,⟨1,some 39,none,.mov 0,false,false⟩,⟨2,some 40,none,.nilck 39,false,false⟩,⟨3,some 41,none,.faddr 40 0,false,false⟩,⟨4,some 42,none,.load false 1 41,false,false⟩,⟨5,some 43,none,.len false 42,false,false⟩,⟨6,some 44,none,.mov 0,false,false⟩,⟨7,some 45,none,.nilck 44,false,false⟩,⟨8,some 46,none,.faddr 45 1,false,false⟩,⟨9,some 47,none,.load false 1 46,false,false⟩,⟨10,some 48,none,.ari .sub false 43 47,false,false⟩,⟨11,some 49,none,.conv .u64 true 48,false,false⟩,⟨12,some 50,none,.cmp .gtr 38 49,false,false⟩,⟨13,some 37,none,.mov 50,false,false⟩]) z6_13
def z6_11:LC:=.cond 25 (.stm [0,5] [sd 34 (.mov 0),sd 35 (.nilck 34),sd 36 (.faddr 35 2),sn (.store 1 36 (ki 4))]) z6_12
def z6_10:LC:=.seq (.stm [0,5,6,25] [sd 26 (.mov 1),sd 27 (.cmp .lss 26 (ki 0)),sd 28 (.mov 27),.g 28 false [sd 29 (.mov 6),sd 30 (.mov 1),sd 31 (.conv .u64 true 30),sd 32 (.cmp .gtr 29 31)] 33 (.c (.bool true)) 32,sd 25 (.mov 33)]) z6_11
def z6_9:LC:=.cond 19 .skip z6_10
def z6_8:LC:=.seq (.stm [0,1,5,6,19] [sd 20 (.mov 0),sd 21 (.nilck 20),sd 22 (.faddr 21 2),sd 23 (.load false 1 22),sd 24 (.cmp .neq 23 (ki 0)),sd 19 (.mov 24)]) z6_9
def z6_7:LC:=.block 0 z6_8
def z6_16:LC:=.seq (.stm [4] [sd 4 (.mov (.c .nils))]) .ret
def z6_15:LC:=.seq (.stm [] [sd 54 (.mov 0),sd 55 (.mov 5),sd 56 (.nilck 54),sd 57 (.faddr 56 1),sn (.store 1 57 55)]) z6_16
def z6_6:LC:=.seq z6_7 z6_15
def z6_5:LC:=.seq (.stm [0,1,5,6] [sd 13 (.mov 0),sd 14 (.call 60 [13]),sd 6 (.mov 14)]) z6_6
def z6_4:LC:=.seq (.stm [0,1,5] [sd 9 (.mov 0),sd 10 (.nilck 9),sd 11 (.faddr 10 1),sd 12 (.load false 1 11),sd 5 (.mov 12)]) z6_5
def z6_0:LC:=.seq z6_1 z6_4
def z6:LC:=.seq (.stm [0,1] [sd 4 (.mov (.c .nils))]) z6_0
theorem jcV:jaL Tryz.prog eqs0 63 z6 [.t 4] 58=true:=by kernel_rfl
end
end Go.Proofs.YtcfkfgkndncanaaGreatDoor
