/- Texts of this claim, merged by a program of this claim: KRead. -/
import Derived.Test.YtcfkfgkndncanaaGreatDoorMs5
namespace Go.Proofs.YtcfkfgkndncanaaGreatDoor
set_option linter.unusedVariables false
set_option linter.unusedSimpArgs false
section
open Go.RowKit
set_option maxRecDepth 100000
def z0_0:LC:=.seq (.stm [2] [kM 3 0,sd 4 (.app (.int .u8) kn 3),sd 5 (.build [.nils,.int .i64 0,.int .i64 0] [(0,1,4)]),sd 6 (.box 5),kM 2 6]) .ret
def z0:LC:=.seq (.stm [0] [kM 2 (.c .nilptr)]) z0_0
theorem jlU:jaH Tryz.prog eqs0 26 z0 [.t 2] 7=true:=by kernel_rfl
def z1_3:LC:=.seq (.stm [2] [kM 2 (ki 0)]) .ret
def z1_2:LC:=.cond 4 z1_3 .skip
def z1_1:LC:=.seq (.stm [0,4] [kM 3 0,sd 4 (.cmpN 0 false 3)]) z1_2
def z1_4:LC:=.seq (.reg [2] [kR 0 5 (.mov 0),kR 1 6 (.nilck 5),kR 2 7 (.fa 6 0),kR 3 8 (.ld 1 7),kR 4 9 (.len false 8),kR 5 10 (.mov 0),kR 6 11 (.nilck 10),kR 7 12 (.fa 11 1),kR 8 13 (.ld 1 12),kR 9 14 (.sub 9 13),kR 10 2 (.mov 14)]) .ret
def z1_0:LC:=.seq z1_1 z1_4
def z1:LC:=.seq (.stm [0] [kM 2 (ki 0)]) z1_0
theorem jeR:jaH Tryz.prog eqs0 27 z1 [.t 2] 15=true:=by kernel_rfl
def z2_4:LC:=.seq (.stm [4] [sd 4 (.mov (.c (.int .u64 0)))]) .ret
def z2_8:LC:=.seq (.stm [4] [sd 4 (.mov (.c (.int .u64 0)))]) .ret
def z2_7:LC:=.seq (.stm [] [kM 23 0,sd 24 (.nilck 23),kF 25 24 2,sn (.store 1 25 (ki 1))]) z2_8
def z2_12:LC:=.seq (.stm [4] [sd 4 (.mov (.c (.int .u64 0)))]) .ret
def z2_11:LC:=.seq (.stm [] [kM 39 0,sd 40 (.nilck 39),kF 41 40 2,sn (.store 1 41 (ki 2))]) z2_12
def z2_10:LC:=.cond 26 z2_11 .skip
def z2_9:LC:=.seq (.reg [0,1,26] [kR 0 27 (.mov 0),kR 1 28 (.nilck 27),kR 2 29 (.fa 28 0),kR 3 30 (.ld 1 29),kR 4 31 (.len false 30),kR 5 32 (.mov 0),kR 6 33 (.nilck 32),kR 7 34 (.fa 33 1),kR 8 35 (.ld 1 34),kR 9 36 (.sub 31 35),kR 10 37 (.mov 1),kR 11 38 (.lt 36 37),kR 12 26 (.mov 38)]) z2_10
def z2_6:LC:=.cond 16 z2_7 z2_9
def z2_5:LC:=.seq (.stm [0,1,16] [kM 17 1,sd 18 (.lt 17 (ki 1)),kM 19 18,.g 19 false [kM 20 1,sd 21 (.cmp .gtr 20 (ki 8))] 22 kt 21,kM 16 22]) z2_6
def z2_3:LC:=.cond 6 z2_4 z2_5
def z2_2:LC:=.seq (.stm [0,1,6] [kM 7 0,sd 8 (.cmpN 0 false 7),kM 9 8,.g 9 false [kM 10 0,sd 11 (.nilck 10),kF 12 11 2,kL 13 1 12,sd 14 (.cmp .neq 13 (ki 0))] 15 kt 14,kM 6 15]) z2_3
def z2_1:LC:=.block 0 z2_2
def z2_20:LC:=.cond 44 .skip (.exit 1)
def z2_23:LC:=.seq (.reg [0,5,42,43] [kR 0 45 (.mov 5),kR 1 46 (.ari .shl true 45 (.c (.int .u64 8))),kR 2 47 (.mov 0),kR 3 48 (.nilck 47),kR 4 49 (.fa 48 0),kR 5 50 (.ld 1 49),kR 6 51 (.mov 0),kR 7 52 (.nilck 51),kR 8 53 (.fa 52 1),kR 9 54 (.ld 1 53),kR 10 55 (.ixS 1 50 54),kR 11 56 (.ld 1 55),kR 12 57 (.conv .u64 false 56),kR 13 58 (.ari .or false 46 57),kR 14 5 (.mov 58)]) (.stm [0,5,42,43] [kM 59 0,sd 60 (.nilck 59),kF 61 60 1,kL 62 1 61,sd 63 (.add 62 (ki 1)),sd 64 (.nilck 59),kF 65 64 1,sn (.store 1 65 63)])
def z2_22:LC:=.block 2 z2_23
def z2_21:LC:=.seq z2_22 (.stm [0,5,42,43] [sd 66 (.add 43 (ki 1)),kM 43 66])
def z2_19:LC:=.seq z2_20 z2_21
def z2_18:LC:=.seq (.stm [0,5,42,43,44] [sd 44 (.lt 43 42)]) z2_19
def z2_17:LC:=.loop z2_18
def z2_16:LC:=.block 1 z2_17
def z2_15:LC:=.seq (.stm [0,5,42,43] [kM 42 1,kM 43 (ki 0)]) z2_16
def z2_24:LC:=.seq (.stm [4] [kM 67 5,kM 4 67]) .ret
def z2_14:LC:=.seq z2_15 z2_24
def z2_13:LC:=.seq (.stm [0,1,5] [sd 5 (.mov (.c (.int .u64 0)))]) z2_14
def z2_0:LC:=.seq z2_1 z2_13
def z2:LC:=.seq (.stm [0,1] [sd 4 (.mov (.c (.int .u64 0)))]) z2_0
theorem jfh:jaH Tryz.prog eqs0 28 z2 [.t 4] 68=true:=by kernel_rfl
def z3_3:LC:=.seq (.stm [2] [sd 2 (.mov (.c (.int .u64 0)))]) .ret
def z3_2:LC:=.cond 14 z3_3 .skip
def z3_1:LC:=.seq (.stm [0,14] [kM 6 0,sd 7 (.cmpN 0 false 6),kM 8 7,.g 8 false [kM 9 0,sd 10 (.nilck 9),kF 11 10 2,kL 12 1 11,sd 13 (.cmp .neq 12 (ki 0))] 14 kt 13]) z3_2
def z3_14:LC:=.seq (.stm [2] [sd 2 (.mov (.c (.int .u64 0)))]) .ret
def z3_13:LC:=.seq (.stm [] [kM 29 0,sd 30 (.nilck 29),kF 31 30 2,sn (.store 1 31 (ki 2))]) z3_14
def z3_12:LC:=.cond 28 z3_13 .skip
def z3_11:LC:=.seq (.reg [0,3,4,28] [kR 0 17 (.mov 0),kR 1 18 (.nilck 17),kR 2 19 (.fa 18 1),kR 3 20 (.ld 1 19),kR 4 21 (.mov 4),kR 5 22 (.add 20 21),kR 6 23 (.mov 0),kR 7 24 (.nilck 23),kR 8 25 (.fa 24 0),kR 9 26 (.ld 1 25),kR 10 27 (.len false 26),kR 11 28 (.cmp .geq 22 27)]) z3_12
def z3_20:LC:=.seq (.stm [2] [sd 2 (.mov (.c (.int .u64 0)))]) .ret
def z3_19:LC:=.seq (.stm [] [kM 58 0,sd 59 (.nilck 58),kF 60 59 2,sn (.store 1 60 (ki 3))]) z3_20
def z3_18:LC:=.cond 57 z3_19 .skip
def z3_17:LC:=.seq (.stm [0,3,4,5,57] [kM 44 4,sd 45 (.eq 44 (ki 9)),kM 46 45,.g 46 true [kM 47 5,sd 48 (.cmp .gtr 47 (k8 1))] 49 48 kf,kM 50 49,.g 50 false [kM 51 4,sd 52 (.cmp .gtr 51 (ki 0)),kM 53 52,.g 53 true [kM 54 5,sd 55 (.eq 54 (k8 0))] 56 55 kf] 57 kt 56]) z3_18
def z3_25:LC:=.seq (.stm [2] [kM 81 3,kM 2 81]) .ret
def z3_24:LC:=.seq (.stm [3] [kM 72 0,sd 73 (.nilck 72),kF 74 73 1,kL 75 1 74,kM 76 4,sd 77 (.add 76 (ki 1)),sd 78 (.add 75 77),sd 79 (.nilck 72),kF 80 79 1,sn (.store 1 80 78)]) z3_25
def z3_23:LC:=.cond 71 z3_24 .skip
def z3_22:LC:=.seq (.stm [0,3,4,71] [kM 70 5,sd 71 (.lt 70 (k8 128))]) z3_23
def z3_21:LC:=.seq (.stm [0,3,4,5] [kM 61 3,kM 62 5,sd 63 (.ari .and false 62 (k8 127)),sd 64 (.conv .u64 false 63),kM 65 4,sd 66 (.ari .mul false (ki 7) 65),sd 67 (.conv .u64 true 66),sd 68 (.ari .shl true 64 67),sd 69 (.ari .or false 61 68),kM 3 69]) z3_22
def z3_16:LC:=.seq z3_17 z3_21
def z3_15:LC:=.seq (.reg [0,3,4,5] [kR 0 32 (.mov 0),kR 1 33 (.nilck 32),kR 2 34 (.fa 33 0),kR 3 35 (.ld 1 34),kR 4 36 (.mov 0),kR 5 37 (.nilck 36),kR 6 38 (.fa 37 1),kR 7 39 (.ld 1 38),kR 8 40 (.mov 4),kR 9 41 (.add 39 40),kR 10 42 (.ixS 1 35 41),kR 11 43 (.ld 1 42),kR 12 5 (.mov 43)]) z3_16
def z3_10:LC:=.seq z3_11 z3_15
def z3_9:LC:=.block 1 z3_10
def z3_8:LC:=.seq z3_9 (.stm [0,3,4] [kM 15 4,sd 16 (.add 15 (ki 1)),kM 4 16])
def z3_7:LC:=.loop z3_8
def z3_6:LC:=.block 0 z3_7
def z3_5:LC:=.seq (.stm [0,3,4] [kM 4 (ki 0)]) z3_6
def z3_4:LC:=.seq (.stm [0,3] [sd 3 (.mov (.c (.int .u64 0)))]) z3_5
def z3_0:LC:=.seq z3_1 z3_4
def z3:LC:=.seq (.stm [0] [sd 2 (.mov (.c (.int .u64 0)))]) z3_0
theorem jb1:jaH Tryz.prog eqs0 60 z3 [.t 2] 82=true:=by kernel_rfl
def z4_3:LC:=.seq (.stm [2] [kM 2 (ki 1)]) .ret
def z4_2:LC:=.cond 4 z4_3 .skip
def z4_1:LC:=.seq (.stm [0,4] [kM 3 0,sd 4 (.cmpN 0 false 3)]) z4_2
def z4_4:LC:=.seq (.stm [2] [kM 5 0,sd 6 (.nilck 5),kF 7 6 2,kL 8 1 7,kM 2 8]) .ret
def z4_0:LC:=.seq z4_1 z4_4
def z4:LC:=.seq (.stm [0] [kM 2 (ki 0)]) z4_0
theorem jdq:jaH Tryz.prog eqs0 101 z4 [.t 2] 9=true:=by kernel_rfl
def z5_4:LC:=.seq (.stm [4] [kM 4 kn]) .ret
def z5_8:LC:=.seq (.stm [4] [kM 4 kn]) .ret
def z5_7:LC:=.seq (.stm [] [kM 19 0,sd 20 (.nilck 19),kF 21 20 2,sn (.store 1 21 (ki 1))]) z5_8
def z5_12:LC:=.seq (.stm [4] [kM 4 kn]) .ret
def z5_11:LC:=.seq (.stm [] [kM 35 0,sd 36 (.nilck 35),kF 37 36 2,sn (.store 1 37 (ki 2))]) z5_12
def z5_10:LC:=.cond 22 z5_11 .skip
def z5_9:LC:=.seq (.reg [0,1,22] [kR 0 23 (.mov 0),kR 1 24 (.nilck 23),kR 2 25 (.fa 24 0),kR 3 26 (.ld 1 25),kR 4 27 (.len false 26),kR 5 28 (.mov 0),kR 6 29 (.nilck 28),kR 7 30 (.fa 29 1),kR 8 31 (.ld 1 30),kR 9 32 (.sub 27 31),kR 10 33 (.mov 1),kR 11 34 (.lt 32 33),kR 12 22 (.mov 34)]) z5_10
def z5_6:LC:=.cond 16 z5_7 z5_9
def z5_5:LC:=.seq (.stm [0,1,16] [kM 17 1,sd 18 (.lt 17 (ki 0)),kM 16 18]) z5_6
def z5_3:LC:=.cond 6 z5_4 z5_5
def z5_2:LC:=.seq (.stm [0,1,6] [kM 7 0,sd 8 (.cmpN 0 false 7),kM 9 8,.g 9 false [kM 10 0,sd 11 (.nilck 10),kF 12 11 2,kL 13 1 12,sd 14 (.cmp .neq 13 (ki 0))] 15 kt 14,kM 6 15]) z5_3
def z5_1:LC:=.block 0 z5_2
def z5_15:LC:=.seq (.stm [4] [kM 62 5,kM 4 62]) .ret
def z5_14:LC:=.seq (.stm [5] [kM 54 0,sd 55 (.nilck 54),kF 56 55 1,kL 57 1 56,kM 58 1,sd 59 (.add 57 58),sd 60 (.nilck 54),kF 61 60 1,sn (.store 1 61 59)]) z5_15
def z5_13:LC:=.seq (.reg [0,1,5] [kR 0 38 (.mov 0),kR 1 39 (.nilck 38),kR 2 40 (.fa 39 0),kR 3 41 (.ld 1 40),kR 4 42 (.mov 0),kR 5 43 (.nilck 42),kR 6 44 (.fa 43 1),kR 7 45 (.ld 1 44),kR 8 46 (.mov 0),kR 9 47 (.nilck 46),kR 10 48 (.fa 47 1),kR 11 49 (.ld 1 48),kR 12 50 (.mov 1),kR 13 51 (.add 49 50),kR 14 52 (.sl false 1 41 (some 45) (some 51) none),⟨15,some 53,none,.app (.int .u8) kn 52,false,true⟩,kR 16 5 (.mov 53)]) z5_14
def z5_0:LC:=.seq z5_1 z5_13
def z5:LC:=.seq (.stm [0,1] [kM 4 kn]) z5_0
theorem jeS:jaH Tryz.prog eqs0 102 z5 [.t 4] 63=true:=by kernel_rfl
def z6_3:LC:=.seq (.stm [4] [kM 4 kn]) .ret
def z6_2:LC:=.cond 8 z6_3 .skip
def z6_1:LC:=.seq (.stm [0,1,8] [kM 7 0,sd 8 (.cmpN 0 false 7)]) z6_2
def z6_14:LC:=.seq (.stm [4] [kM 15 0,kM 16 6,sd 17 (.conv .i64 true 16),sd 18 (.call 102 [15,17]),kM 4 18]) .ret
def z6_13:LC:=.cond 37 (.stm [0,5] [kM 51 0,sd 52 (.nilck 51),kF 53 52 2,sn (.store 1 53 (ki 2))]) z6_14
def z6_12:LC:=.seq (.reg [0,5,6,37] [kR 0 38 (.mov 6),kR 1 39 (.mov 0),kR 2 40 (.nilck 39),kR 3 41 (.fa 40 0),kR 4 42 (.ld 1 41),kR 5 43 (.len false 42),kR 6 44 (.mov 0),kR 7 45 (.nilck 44),kR 8 46 (.fa 45 1),kR 9 47 (.ld 1 46),kR 10 48 (.sub 43 47),kR 11 49 (.conv .u64 true 48),kR 12 50 (.cmp .gtr 38 49),kR 13 37 (.mov 50)]) z6_13
def z6_11:LC:=.cond 25 (.stm [0,5] [kM 34 0,sd 35 (.nilck 34),kF 36 35 2,sn (.store 1 36 (ki 4))]) z6_12
def z6_10:LC:=.seq (.stm [0,5,6,25] [kM 26 1,sd 27 (.lt 26 (ki 0)),kM 28 27,.g 28 false [kM 29 6,kM 30 1,sd 31 (.conv .u64 true 30),sd 32 (.cmp .gtr 29 31)] 33 kt 32,kM 25 33]) z6_11
def z6_9:LC:=.cond 19 .skip z6_10
def z6_8:LC:=.seq (.stm [0,1,5,6,19] [kM 20 0,sd 21 (.nilck 20),kF 22 21 2,kL 23 1 22,sd 24 (.cmp .neq 23 (ki 0)),kM 19 24]) z6_9
def z6_7:LC:=.block 0 z6_8
def z6_16:LC:=.seq (.stm [4] [kM 4 kn]) .ret
def z6_15:LC:=.seq (.stm [] [kM 54 0,kM 55 5,sd 56 (.nilck 54),kF 57 56 1,sn (.store 1 57 55)]) z6_16
def z6_6:LC:=.seq z6_7 z6_15
def z6_5:LC:=.seq (.stm [0,1,5,6] [kM 13 0,sd 14 (.call 60 [13]),kM 6 14]) z6_6
def z6_4:LC:=.seq (.stm [0,1,5] [kM 9 0,sd 10 (.nilck 9),kF 11 10 1,kL 12 1 11,kM 5 12]) z6_5
def z6_0:LC:=.seq z6_1 z6_4
def z6:LC:=.seq (.stm [0,1] [kM 4 kn]) z6_0
theorem jdc:jaH Tryz.prog eqs0 63 z6 [.t 4] 58=true:=by kernel_rfl
end
end Go.Proofs.YtcfkfgkndncanaaGreatDoor
