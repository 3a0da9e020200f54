/- Texts of this claim, merged by a program of this claim: KRead. -/
import Derived.Test.YtcfkfgkndncanaaGreatDoorMa5
namespace Go.Proofs.YtcfkfgkndncanaaGreatDoor
set_option linter.unusedVariables false
set_option linter.unusedSimpArgs false
section
open Go.RowKit
set_option maxRecDepth 100000
def z0_0:LC:=.seq (.stm [2] [kM 3 0,sd 4 (.app (.int .u8) kn 3),sd 5 (.build [.nils,.int .i64 0,.int .i64 0] [(0,1,4)]),sd 6 (.box 5),kM 2 6]) .ret
def z0:LC:=.seq (.stm [0] [kM 2 (.c .nilptr)]) z0_0
theorem jmq:jaQ Tryz.prog eqs0 26 z0 [.t 2] 7=true:=by kernel_rfl
def z1_3:LC:=.seq (.stm [2] [kM 2 (ki 0)]) .ret
def z1_2:LC:=.cond 4 z1_3 .skip
def z1_1:LC:=.seq (.stm [0,4] [kM 3 0,sd 4 (.cmpN 0 false 3)]) z1_2
def z1_4:LC:=.seq (.reg [2] [kR 0 5 (.mov 0),kR 1 6 (.nilck 5),kR 2 7 (.fa 6 0),kR 3 8 (.ld 1 7),kR 4 9 (.len false 8),kR 5 10 (.mov 0),kR 6 11 (.nilck 10),kR 7 12 (.fa 11 1),kR 8 13 (.ld 1 12),kR 9 14 (.sub 9 13),kR 10 2 (.mov 14)]) .ret
def z1_0:LC:=.seq z1_1 z1_4
def z1:LC:=.seq (.stm [0] [kM 2 (ki 0)]) z1_0
theorem jeL:jaQ Tryz.prog eqs0 27 z1 [.t 2] 15=true:=by kernel_rfl
def z2_4:LC:=.seq (.stm [4] [sd 4 (.mov (.c (.int .u64 0)))]) .ret
def z2_8:LC:=.seq (.stm [4] [sd 4 (.mov (.c (.int .u64 0)))]) .ret
def z2_7:LC:=.seq (.stm [] [kM 23 0,sd 24 (.nilck 23),kF 25 24 2,sn (.store 1 25 (ki 1))]) z2_8
def z2_12:LC:=.seq (.stm [4] [sd 4 (.mov (.c (.int .u64 0)))]) .ret
def z2_11:LC:=.seq (.stm [] [kM 39 0,sd 40 (.nilck 39),kF 41 40 2,sn (.store 1 41 (ki 2))]) z2_12
def z2_10:LC:=.cond 26 z2_11 .skip
def z2_9:LC:=.seq (.reg [0,1,26] [kR 0 27 (.mov 0),kR 1 28 (.nilck 27),kR 2 29 (.fa 28 0),kR 3 30 (.ld 1 29),kR 4 31 (.len false 30),kR 5 32 (.mov 0),kR 6 33 (.nilck 32),kR 7 34 (.fa 33 1),kR 8 35 (.ld 1 34),kR 9 36 (.sub 31 35),kR 10 37 (.mov 1),kR 11 38 (.lt 36 37),kR 12 26 (.mov 38)]) z2_10
def z2_6:LC:=.cond 16 z2_7 z2_9
def z2_5:LC:=.seq (.stm [0,1,16] [kM 17 1,sd 18 (.lt 17 (ki 1)),kM 19 18,.g 19 false [kM 20 1,sd 21 (.cmp .gtr 20 (ki 8))] 22 kt 21,kM 16 22]) z2_6
def z2_3:LC:=.cond 6 z2_4 z2_5
def z2_2:LC:=.seq (.stm [0,1,6] [kM 7 0,sd 8 (.cmpN 0 false 7),kM 9 8,.g 9 false [kM 10 0,sd 11 (.nilck 10),kF 12 11 2,kL 13 1 12,sd 14 (.cmp .neq 13 (ki 0))] 15 kt 14,kM 6 15]) z2_3
def z2_1:LC:=.block 0 z2_2
def z2_20:LC:=.cond 44 .skip (.exit 1)
def z2_23:LC:=.seq (.reg [0,5,42,43] [kR 0 45 (.mov 5),kR 1 46 (.ari .shl true 45 (.c (.int .u64 8))),kR 2 47 (.mov 0),kR 3 48 (.nilck 47),kR 4 49 (.fa 48 0),kR 5 50 (.ld 1 49),kR 6 51 (.mov 0),kR 7 52 (.nilck 51),kR 8 53 (.fa 52 1),kR 9 54 (.ld 1 53),kR 10 55 (.ixS 1 50 54),kR 11 56 (.ld 1 55),kR 12 57 (.conv .u64 false 56),kR 13 58 (.ari .or false 46 57),kR 14 5 (.mov 58)]) (.stm [0,5,42,43] [kM 59 0,sd 60 (.nilck 59),kF 61 60 1,kL 62 1 61,sd 63 (.add 62 (ki 1)),sd 64 (.nilck 59),kF 65 64 1,sn (.store 1 65 63)])
def z2_22:LC:=.block 2 z2_23
def z2_21:LC:=.seq z2_22 (.stm [0,5,42,43] [sd 66 (.add 43 (ki 1)),kM 43 66])
def z2_19:LC:=.seq z2_20 z2_21
def z2_18:LC:=.seq (.stm [0,5,42,43,44] [sd 44 (.lt 43 42)]) z2_19
def z2_17:LC:=.loop z2_18
def z2_16:LC:=.block 1 z2_17
def z2_15:LC:=.seq (.stm [0,5,42,43] [kM 42 1,kM 43 (ki 0)]) z2_16
def z2_24:LC:=.seq (.stm [4] [kM 67 5,kM 4 67]) .ret
def z2_14:LC:=.seq z2_15 z2_24
def z2_13:LC:=.seq (.stm [0,1,5] [sd 5 (.mov (.c (.int .u64 0)))]) z2_14
def z2_0:LC:=.seq z2_1 z2_13
def z2:LC:=.seq (.stm [0,1] [sd 4 (.mov (.c (.int .u64 0)))]) z2_0
theorem jfc:jaQ Tryz.prog eqs0 28 z2 [.t 4] 68=true:=by kernel_rfl
def z3_3:LC:=.seq (.stm [2] [sd 2 (.mov (.c (.int .u64 0)))]) .ret
def z3_2:LC:=.cond 14 z3_3 .skip
def z3_1:LC:=.seq (.stm [0,14] [kM 6 0,sd 7 (.cmpN 0 false 6),kM 8 7,.g 8 false [kM 9 0,sd 10 (.nilck 9),kF 11 10 2,kL 12 1 11,sd 13 (.cmp .neq 12 (ki 0))] 14 kt 13]) z3_2
def z3_14:LC:=.seq (.stm [2] [sd 2 (.mov (.c (.int .u64 0)))]) .ret
def z3_13:LC:=.seq (.stm [] [kM 29 0,sd 30 (.nilck 29),kF 31 30 2,sn (.store 1 31 (ki 2))]) z3_14
def z3_12:LC:=.cond 28 z3_13 .skip
def z3_11:LC:=.seq (.reg [0,3,4,28] [kR 0 17 (.mov 0),kR 1 18 (.nilck 17),kR 2 19 (.fa 18 1),kR 3 20 (.ld 1 19),kR 4 21 (.mov 4),kR 5 22 (.add 20 21),kR 6 23 (.mov 0),kR 7 24 (.nilck 23),kR 8 25 (.fa 24 0),kR 9 26 (.ld 1 25),kR 10 27 (.len false 26),kR 11 28 (.cmp .geq 22 27)]) z3_12
def z3_20:LC:=.seq (.stm [2] [sd 2 (.mov (.c (.int .u64 0)))]) .ret
def z3_19:LC:=.seq (.stm [] [kM 58 0,sd 59 (.nilck 58),kF 60 59 2,sn (.store 1 60 (ki 3))]) z3_20
def z3_18:LC:=.cond 57 z3_19 .skip
def z3_17:LC:=.seq (.stm [0,3,4,5,57] [kM 44 4,sd 45 (.eq 44 (ki 9)),kM 46 45,.g 46 true [kM 47 5,sd 48 (.cmp .gtr 47 (k8 1))] 49 48 kf,kM 50 49,.g 50 false [kM 51 4,sd 52 (.cmp .gtr 51 (ki 0)),kM 53 52,.g 53 true [kM 54 5,sd 55 (.eq 54 (k8 0))] 56 55 kf] 57 kt 56]) z3_18
def z3_25:LC:=.seq (.stm [2] [kM 81 3,kM 2 81]) .ret
def z3_24:LC:=.seq (.stm [3] [kM 72 0,sd 73 (.nilck 72),kF 74 73 1,kL 75 1 74,kM 76 4,sd 77 (.add 76 (ki 1)),sd 78 (.add 75 77),sd 79 (.nilck 72),kF 80 79 1,sn (.store 1 80 78)]) z3_25
def z3_23:LC:=.cond 71 z3_24 .skip
def z3_22:LC:=.seq (.stm [0,3,4,71] [kM 70 5,sd 71 (.lt 70 (k8 128))]) z3_23
def z3_21:LC:=.seq (.stm [0,3,4,5] [kM 61 3,kM 62 5,sd 63 (.ari .and false 62 (k8 127)),sd 64 (.conv .u64 false 63),kM 65 4,sd 66 (.ari .mul false (ki 7) 65),sd 67 (.conv .u64 true 66),sd 68 (.ari .shl true 64 67),sd 69 (.ari .or false 61 68),kM 3 69]) z3_22
def z3_16:LC:=.seq z3_17 z3_21
def z3_15:LC:=.seq (.reg [0,3,4,5] [kR 0 32 (.mov 0),kR 1 33 (.nilck 32),kR 2 34 (.fa 33 0),kR 3 35 (.ld 1 34),kR 4 36 (.mov 0),kR 5 37 (.nilck 36),kR 6 38 (.fa 37 1),kR 7 39 (.ld 1 38),kR 8 40 (.mov 4),kR 9 41 (.add 39 40),kR 10 42 (.ixS 1 35 41),kR 11 43 (.ld 1 42),kR 12 5 (.mov 43)]) z3_16
def z3_10:LC:=.seq z3_11 z3_15
def z3_9:LC:=.block 1 z3_10
def z3_8:LC:=.seq z3_9 (.stm [0,3,4] [kM 15 4,sd 16 (.add 15 (ki 1)),kM 4 16])
def z3_7:LC:=.loop z3_8
def z3_6:LC:=.block 0 z3_7
def z3_5:LC:=.seq (.stm [0,3,4] [kM 4 (ki 0)]) z3_6
def z3_4:LC:=.seq (.stm [0,3] [sd 3 (.mov (.c (.int .u64 0)))]) z3_5
def z3_0:LC:=.seq z3_1 z3_4
def z3:LC:=.seq (.stm [0] [sd 2 (.mov (.c (.int .u64 0)))]) z3_0
theorem jb4:jaQ Tryz.prog eqs0 60 z3 [.t 2] 82=true:=by kernel_rfl
def z4_3:LC:=.seq (.stm [2] [kM 2 (ki 1)]) .ret
def z4_2:LC:=.cond 4 z4_3 .skip
def z4_1:LC:=.seq (.stm [0,4] [kM 3 0,sd 4 (.cmpN 0 false 3)]) z4_2
def z4_4:LC:=.seq (.stm [2] [kM 5 0,sd 6 (.nilck 5),kF 7 6 2,kL 8 1 7,kM 2 8]) .ret
def z4_0:LC:=.seq z4_1 z4_4
def z4:LC:=.seq (.stm [0] [kM 2 (ki 0)]) z4_0
theorem jcS:jaQ Tryz.prog eqs0 101 z4 [.t 2] 9=true:=by kernel_rfl
def z5_4:LC:=.seq (.stm [4] [kM 4 kn]) .ret
def z5_8:LC:=.seq (.stm [4] [kM 4 kn]) .ret
def z5_7:LC:=.seq (.stm [] [kM 19 0,sd 20 (.nilck 19),kF 21 20 2,sn (.store 1 21 (ki 1))]) z5_8
def z5_12:LC:=.seq (.stm [4] [kM 4 kn]) .ret
def z5_11:LC:=.seq (.stm [] [kM 35 0,sd 36 (.nilck 35),kF 37 36 2,sn (.store 1 37 (ki 2))]) z5_12
def z5_10:LC:=.cond 22 z5_11 .skip
def z5_9:LC:=.seq (.reg [0,1,22] [kR 0 23 (.mov 0),kR 1 24 (.nilck 23),kR 2 25 (.fa 24 0),kR 3 26 (.ld 1 25),kR 4 27 (.len false 26),kR 5 28 (.mov 0),kR 6 29 (.nilck 28),kR 7 30 (.fa 29 1),kR 8 31 (.ld 1 30),kR 9 32 (.sub 27 31),kR 10 33 (.mov 1),kR 11 34 (.lt 32 33),kR 12 22 (.mov 34)]) z5_10
def z5_6:LC:=.cond 16 z5_7 z5_9
def z5_5:LC:=.seq (.stm [0,1,16] [kM 17 1,sd 18 (.lt 17 (ki 0)),kM 16 18]) z5_6
def z5_3:LC:=.cond 6 z5_4 z5_5
def z5_2:LC:=.seq (.stm [0,1,6] [kM 7 0,sd 8 (.cmpN 0 false 7),kM 9 8,.g 9 false [kM 10 0,sd 11 (.nilck 10),kF 12 11 2,kL 13 1 12,sd 14 (.cmp .neq 13 (ki 0))] 15 kt 14,kM 6 15]) z5_3
def z5_1:LC:=.block 0 z5_2
def z5_15:LC:=.seq (.stm [4] [kM 62 5,kM 4 62]) .ret
def z5_14:LC:=.seq (.stm [5] [kM 54 0,sd 55 (.nilck 54),kF 56 55 1,kL 57 1 56,kM 58 1,sd 59 (.add 57 58),sd 60 (.nilck 54),kF 61 60 1,sn (.store 1 61 59)]) z5_15
def z5_13:LC:=.seq (.reg [0,1,5] [kR 0 38 (.mov 0),kR 1 39 (.nilck 38),kR 2 40 (.fa 39 0),kR 3 41 (.ld 1 40),kR 4 42 (.mov 0),kR 5 43 (.nilck 42),kR 6 44 (.fa 43 1),kR 7 45 (.ld 1 44),kR 8 46 (.mov 0),kR 9 47 (.nilck 46),kR 10 48 (.fa 47 1),kR 11 49 (.ld 1 48),kR 12 50 (.mov 1),kR 13 51 (.add 49 50),kR 14 52 (.sl false 1 41 (some 45) (some 51) none),⟨15,some 53,none,.app (.int .u8) kn 52,false,true⟩,kR 16 5 (.mov 53)]) z5_14
def z5_0:LC:=.seq z5_1 z5_13
def z5:LC:=.seq (.stm [0,1] [kM 4 kn]) z5_0
theorem jeM:jaQ Tryz.prog eqs0 102 z5 [.t 4] 63=true:=by kernel_rfl
def z6_3:LC:=.seq (.stm [4] [kM 4 kn]) .ret
def z6_2:LC:=.cond 8 z6_3 .skip
def z6_1:LC:=.seq (.stm [0,1,8] [kM 7 0,sd 8 (.cmpN 0 false 7)]) z6_2
def z6_14:LC:=.seq (.stm [4] [kM 15 0,kM 16 6,sd 17 (.conv .i64 true 16),sd 18 (.call 102 [15,17]),kM 4 18]) .ret
def z6_13:LC:=.cond 37 (.stm [0,5] [kM 51 0,sd 52 (.nilck 51),kF 53 52 2,sn (.store 1 53 (ki 2))]) z6_14
def z6_12:LC:=.seq (.reg [0,5,6,37] [kR 0 38 (.mov 6),kR 1 39 (.mov 0),kR 2 40 (.nilck 39),kR 3 41 (.fa 40 0),kR 4 42 (.ld 1 41),kR 5 43 (.len false 42),kR 6 44 (.mov 0),kR 7 45 (.nilck 44),kR 8 46 (.fa 45 1),kR 9 47 (.ld 1 46),kR 10 48 (.sub 43 47),kR 11 49 (.conv .u64 true 48),kR 12 50 (.cmp .gtr 38 49),kR 13 37 (.mov 50)]) z6_13
def z6_11:LC:=.cond 25 (.stm [0,5] [kM 34 0,sd 35 (.nilck 34),kF 36 35 2,sn (.store 1 36 (ki 4))]) z6_12
def z6_10:LC:=.seq (.stm [0,5,6,25] [kM 26 1,sd 27 (.lt 26 (ki 0)),kM 28 27,.g 28 false [kM 29 6,kM 30 1,sd 31 (.conv .u64 true 30),sd 32 (.cmp .gtr 29 31)] 33 kt 32,kM 25 33]) z6_11
def z6_9:LC:=.cond 19 .skip z6_10
def z6_8:LC:=.seq (.stm [0,1,5,6,19] [kM 20 0,sd 21 (.nilck 20),kF 22 21 2,kL 23 1 22,sd 24 (.cmp .neq 23 (ki 0)),kM 19 24]) z6_9
def z6_7:LC:=.block 0 z6_8
def z6_16:LC:=.seq (.stm [4] [kM 4 kn]) .ret
def z6_15:LC:=.seq (.stm [] [kM 54 0,kM 55 5,sd 56 (.nilck 54),kF 57 56 1,sn (.store 1 57 55)]) z6_16
def z6_6:LC:=.seq z6_7 z6_15
def z6_5:LC:=.seq (.stm [0,1,5,6] [kM 13 0,sd 14 (.call 60 [13]),kM 6 14]) z6_6
def z6_4:LC:=.seq (.stm [0,1,5] [kM 9 0,sd 10 (.nilck 9),kF 11 10 1,kL 12 1 11,kM 5 12]) z6_5
def z6_0:LC:=.seq z6_1 z6_4
def z6:LC:=.seq (.stm [0,1] [kM 4 kn]) z6_0
theorem jdj:jaQ Tryz.prog eqs0 63 z6 [.t 4] 58=true:=by kernel_rfl
def z7_2:LC:=.seq (.stm [2] [kM 10 3,kM 2 10]) .ret
def z7_1:LC:=.seq (.stm [3] [kM 7 3,kM 8 0,sd 9 (.cpy (.int .u8) 7 8)]) z7_2
def z7_0:LC:=.seq (.stm [0,3] [kM 4 0,sd 5 (.len false 4),sd 6 (.mksl (.int .u8) 1 5 5),kM 3 6]) z7_1
def z7:LC:=.seq (.stm [0] [kM 2 kn]) z7_0
theorem jiA:jaQ Tryz.prog eqs0 10 z7 [.t 2] 11=true:=by kernel_rfl
def z8_0:LC:=.seq (.stm [2] [kF 3 1 0,kL 4 1 3,sd 5 (.len false 4),kF 6 1 1,kL 7 1 6,sd 8 (.sub 5 7),kM 2 8]) .ret
def z8:LC:=.seq (.stm [1] [sd 1 (.box 0),kM 2 (ki 0)]) z8_0
theorem jfd:jaQ Tryz.prog eqs0 31 z8 [.t 2] 9=true:=by kernel_rfl
def z9_3:LC:=.seq (.reg [2,3] [kR 0 11 (.load true 3 1),kR 1 2 (.mov (.c (.int .u64 0))),⟨2,none,none,.store 3 3 11,false,true⟩]) .ret
def z9_2:LC:=.cond 10 z9_3 .skip
def z9_1:LC:=.seq (.stm [1,3,10] [kF 8 1 2,kL 9 1 8,sd 10 (.cmp .neq 9 (ki 0))]) z9_2
def z9_13:LC:=.seq (.reg [2,3] [kR 0 21 (.load true 3 1),kR 1 2 (.mov (.c (.int .u64 0))),⟨2,none,none,.store 3 3 21,false,true⟩]) .ret
def z9_12:LC:=.seq (.stm [1,3] [kF 20 1 2,sn (.store 1 20 (ki 2))]) z9_13
def z9_11:LC:=.cond 19 z9_12 .skip
def z9_10:LC:=.seq (.stm [1,3,4,19] [kF 12 1 1,kL 13 1 12,kM 14 4,sd 15 (.add 13 14),kF 16 1 0,kL 17 1 16,sd 18 (.len false 17),sd 19 (.cmp .geq 15 18)]) z9_11
def z9_19:LC:=.seq (.reg [2,3] [kR 0 45 (.load true 3 1),kR 1 2 (.mov (.c (.int .u64 0))),⟨2,none,none,.store 3 3 45,false,true⟩]) .ret
def z9_18:LC:=.seq (.stm [1,3] [kF 44 1 2,sn (.store 1 44 (ki 3))]) z9_19
def z9_17:LC:=.cond 43 z9_18 .skip
def z9_16:LC:=.seq (.stm [1,3,4,5,43] [kM 30 4,sd 31 (.eq 30 (ki 9)),kM 32 31,.g 32 true [kM 33 5,sd 34 (.cmp .gtr 33 (k8 1))] 35 34 kf,kM 36 35,.g 36 false [kM 37 4,sd 38 (.cmp .gtr 37 (ki 0)),kM 39 38,.g 39 true [kM 40 5,sd 41 (.eq 40 (k8 0))] 42 41 kf] 43 kt 42]) z9_17
def z9_22:LC:=.cond 49 (.exit 0) .skip
def z9_21:LC:=.seq (.stm [1,3,4,49] [kM 48 5,sd 49 (.lt 48 (k8 128))]) z9_22
def z9_20:LC:=.seq (.stm [1,3,4,5] [kM 46 4,sd 47 (.add 46 (ki 1)),kM 4 47]) z9_21
def z9_15:LC:=.seq z9_16 z9_20
def z9_14:LC:=.seq (.stm [1,3,4,5] [kF 22 1 0,kL 23 1 22,kF 24 1 1,kL 25 1 24,kM 26 4,sd 27 (.add 25 26),sd 28 (.ixS 1 23 27),kL 29 1 28,kM 5 29]) z9_15
def z9_9:LC:=.seq z9_10 z9_14
def z9_8:LC:=.block 1 z9_9
def z9_7:LC:=.loop z9_8
def z9_6:LC:=.block 0 z9_7
def z9_30:LC:=.cond 53 .skip (.exit 2)
def z9_29:LC:=.seq (.stm [1,3,4,6,7,53] [kM 52 7,sd 53 (.cmp .geq 52 (ki 0))]) z9_30
def z9_32:LC:=.block 3 (.stm [1,3,4,6,7] [kM 56 6,sd 57 (.ari .mul true 56 (.c (.int .u64 128))),kF 58 1 0,kL 59 1 58,kF 60 1 1,kL 61 1 60,kM 62 7,sd 63 (.add 61 62),sd 64 (.ixS 1 59 63),kL 65 1 64,sd 66 (.ari .rem false 65 (k8 128)),sd 67 (.conv .u64 false 66),sd 68 (.ari .add true 57 67),kM 6 68])
def z9_31:LC:=.seq z9_32 (.stm [1,3,4,6,7] [kM 54 7,sd 55 (.sub 54 (ki 1)),kM 7 55])
def z9_28:LC:=.seq z9_29 z9_31
def z9_27:LC:=.loop z9_28
def z9_26:LC:=.block 2 z9_27
def z9_25:LC:=.seq (.stm [1,3,4,6,7] [kM 50 4,sd 51 (.sub 50 (ki 1)),kM 7 51]) z9_26
def z9_34:LC:=.seq (.reg [2,3] [kR 0 74 (.mov 6),kR 1 75 (.load true 3 1),kR 2 2 (.mov 74),⟨3,none,none,.store 3 3 75,false,true⟩]) .ret
def z9_33:LC:=.seq (.stm [1,3,6] [kF 69 1 1,kL 70 1 69,kM 71 4,sd 72 (.add 70 71),kF 73 1 1,sn (.store 1 73 72)]) z9_34
def z9_24:LC:=.seq z9_25 z9_33
def z9_23:LC:=.seq (.stm [1,3,4,6] [sd 6 (.mov (.c (.int .u64 0)))]) z9_24
def z9_5:LC:=.seq z9_6 z9_23
def z9_4:LC:=.seq (.stm [1,3,4] [kM 4 (ki 0)]) z9_5
def z9_0:LC:=.seq z9_1 z9_4
def z9:LC:=.seq (.stm [1,3] [sd 1 (.box 0),sd 2 (.mov (.c (.int .u64 0))),sd 3 (.zero [.nils,.int .i64 0,.int .i64 0])]) z9_0
theorem jb8:jaQ Tryz.prog eqs0 68 z9 [.t 2,.c 3 true 3] 76=true:=by kernel_rfl
def z10_3:LC:=.seq (.reg [4,5] [kR 0 10 (.load true 3 2),kR 1 4 (.mov kn),⟨2,none,none,.store 3 5 10,false,true⟩]) .ret
def z10_2:LC:=.cond 9 z10_3 .skip
def z10_1:LC:=.seq (.stm [1,2,5,9] [kF 7 2 2,kL 8 1 7,sd 9 (.cmp .neq 8 (ki 0))]) z10_2
def z10_8:LC:=.seq (.reg [4,5] [kR 0 14 (.load true 3 2),kR 1 4 (.mov kn),⟨2,none,none,.store 3 5 14,false,true⟩]) .ret
def z10_7:LC:=.seq (.stm [2,5] [kF 13 2 2,sn (.store 1 13 (ki 1))]) z10_8
def z10_6:LC:=.cond 12 z10_7 .skip
def z10_5:LC:=.seq (.stm [1,2,5,12] [kM 11 1,sd 12 (.lt 11 (ki 0))]) z10_6
def z10_13:LC:=.seq (.reg [4,5] [kR 0 24 (.load true 3 2),kR 1 4 (.mov kn),⟨2,none,none,.store 3 5 24,false,true⟩]) .ret
def z10_12:LC:=.seq (.stm [2,5] [kF 23 2 2,sn (.store 1 23 (ki 2))]) z10_13
def z10_11:LC:=.cond 22 z10_12 .skip
def z10_10:LC:=.seq (.stm [1,2,5,22] [kF 15 2 0,kL 16 1 15,sd 17 (.len false 16),kF 18 2 1,kL 19 1 18,sd 20 (.sub 17 19),kM 21 1,sd 22 (.lt 20 21)]) z10_11
def z10_16:LC:=.seq (.reg [4,5] [kR 0 40 (.mov 6),kR 1 41 (.load true 3 2),kR 2 4 (.mov 40),⟨3,none,none,.store 3 5 41,false,true⟩]) .ret
def z10_15:LC:=.seq (.stm [2,5,6] [kF 35 2 1,kL 36 1 35,kM 37 1,sd 38 (.add 36 37),kF 39 2 1,sn (.store 1 39 38)]) z10_16
def z10_14:LC:=.seq (.stm [1,2,5,6] [kF 25 2 0,kL 26 1 25,kF 27 2 1,kL 28 1 27,kF 29 2 1,kL 30 1 29,kM 31 1,sd 32 (.add 30 31),sd 33 (.sl false 1 26 (some 28) (some 32) none),sd 34 (.call 10 [33]),kM 6 34]) z10_15
def z10_9:LC:=.seq z10_10 z10_14
def z10_4:LC:=.seq z10_5 z10_9
def z10_0:LC:=.seq z10_1 z10_4
def z10:LC:=.seq (.stm [1,2,5] [sd 2 (.box 0),kM 4 kn,sd 5 (.zero [.nils,.int .i64 0,.int .i64 0])]) z10_0
theorem jfe:jaQ Tryz.prog eqs0 107 z10 [.t 4,.c 5 true 3] 42=true:=by kernel_rfl
def z11_5:LC:=.seq (.reg [4,5] [kR 0 19 (.load true 3 2),kR 1 4 (.mov kn),⟨2,none,none,.store 3 5 19,false,true⟩]) .ret
def z11_4:LC:=.seq (.stm [2,5] [kF 16 7 2,kL 17 1 16,kF 18 2 2,sn (.store 1 18 17)]) z11_5
def z11_3:LC:=.cond 15 z11_4 .skip
def z11_2:LC:=.seq (.stm [1,2,5,6,7,15] [kF 13 7 2,kL 14 1 13,sd 15 (.cmp .neq 14 (ki 0))]) z11_3
def z11_10:LC:=.seq (.reg [4,5] [kR 0 29 (.load true 3 2),kR 1 4 (.mov kn),⟨2,none,none,.store 3 5 29,false,true⟩]) .ret
def z11_9:LC:=.seq (.stm [2,5] [kF 28 2 2,sn (.store 1 28 (ki 4))]) z11_10
def z11_8:LC:=.cond 27 z11_9 .skip
def z11_7:LC:=.seq (.stm [2,5,6,7,27] [kM 20 1,sd 21 (.lt 20 (ki 0)),kM 22 21,.g 22 false [kM 23 6,kM 24 1,sd 25 (.conv .u64 true 24),sd 26 (.cmp .gtr 23 25)] 27 kt 26]) z11_8
def z11_15:LC:=.seq (.reg [4,5] [kR 0 40 (.load true 3 2),kR 1 4 (.mov kn),⟨2,none,none,.store 3 5 40,false,true⟩]) .ret
def z11_14:LC:=.seq (.stm [2,5] [kF 39 2 2,sn (.store 1 39 (ki 2))]) z11_15
def z11_13:LC:=.cond 38 z11_14 .skip
def z11_12:LC:=.seq (.stm [2,5,6,7,38] [kM 30 6,kF 31 7 0,kL 32 1 31,sd 33 (.len false 32),kF 34 7 1,kL 35 1 34,sd 36 (.sub 33 35),sd 37 (.conv .u64 true 36),sd 38 (.cmp .gtr 30 37)]) z11_13
def z11_16:LC:=.seq (.stm [4,5] [sd 41 (.load true 3 7),kM 42 6,sd 43 (.conv .i64 true 42),sd 44 (.call 107 [41,43]),sd 45 (.ext 44 0),sd 46 (.ext 44 1),kM 4 45,sn (.store 3 5 46)]) .ret
def z11_11:LC:=.seq z11_12 z11_16
def z11_6:LC:=.seq z11_7 z11_11
def z11_1:LC:=.seq z11_2 z11_6
def z11_0:LC:=.seq (.stm [1,2,5,6,7] [sd 9 (.load true 3 2),sd 10 (.call 68 [9]),kM 8 10,sd 11 (.ext 8 0),sd 12 (.ext 8 1),sd 7 (.zero [.nils,.int .i64 0,.int .i64 0]),kM 6 11,sn (.store 3 7 12)]) z11_1
def z11:LC:=.seq (.stm [1,2,5] [sd 2 (.box 0),kM 4 kn,sd 5 (.zero [.nils,.int .i64 0,.int .i64 0])]) z11_0
theorem jdv:jaQ Tryz.prog eqs0 69 z11 [.t 4,.c 5 true 3] 47=true:=by kernel_rfl
end
end Go.Proofs.YtcfkfgkndncanaaGreatDoor
