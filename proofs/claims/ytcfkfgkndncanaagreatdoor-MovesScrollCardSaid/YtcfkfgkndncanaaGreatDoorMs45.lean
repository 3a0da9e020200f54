/- Texts of this claim, merged by a program of this claim: KScroll. -/
import Derived.Test.YtcfkfgkndncanaaGreatDoorMs5
namespace Go.Proofs.YtcfkfgkndncanaaGreatDoor
set_option linter.unusedVariables false
set_option linter.unusedSimpArgs false
section
open Go.RowKit
set_option maxRecDepth 100000
def z101_7:LC:=.cond 11 .skip (.exit 0)
def z101_10:LC:=.seq (.stm [0,3,4,9,10] [kM 12 10,kM 4 12]) (.stm [0,3,9,10] [kM 13 3,kM 14 4,kM 15 0,kM 16 4,sd 17 (.ixS 6 15 16),sd 18 (.load true 6 17),kM 19 4,sd 20 (.build [.int .i32 0,.int .u8 0,.int .u32 0,.int .u32 0,.int .u8 0,.int .u16 0,.int .i64 0] [(0,6,18),(6,1,19)]),sd 21 (.ixS 7 13 14),sn (.store 7 21 20)])
def z101_9:LC:=.block 1 z101_10
def z101_8:LC:=.seq z101_9 (.stm [0,3,9,10] [sd 22 (.add 10 (ki 1)),kM 10 22])
def z101_6:LC:=.seq z101_7 z101_8
def z101_5:LC:=.seq (.stm [0,3,9,10,11] [sd 11 (.lt 10 9)]) z101_6
def z101_4:LC:=.loop z101_5
def z101_3:LC:=.block 0 z101_4
def z101_2:LC:=.seq (.stm [0,3,9,10] [kM 8 0,sd 9 (.len false 8),kM 10 (ki 0)]) z101_3
def z101_11:LC:=.seq (.stm [2] [kM 23 3,kM 2 23]) .ret
def z101_1:LC:=.seq z101_2 z101_11
def z101_0:LC:=.seq (.stm [0,3] [kM 5 0,sd 6 (.len false 5),sd 7 (.mksl (.pair .cell (.int .i64)) 32 6 6),kM 3 7]) z101_1
def z101:LC:=.seq (.stm [0] [kM 2 kn]) z101_0
theorem jjh:jaH Tryz.prog eqs0 93 z101 [.t 2] 24=true:=by kernel_rfl
def z102_7:LC:=.cond 11 .skip (.exit 0)
def z102_14:LC:=.cond 59 (.stm [0,3,4,9,10] [kM 60 3,kM 61 4,kM 62 0,kM 63 4,sd 64 (.ixS 7 62 63),kF 65 64 0,kF 66 65 2,sd 67 (.load true 4 66),sd 68 (.call 92 [67]),sd 69 (.ixS 6 60 61),sn (.store 6 69 68)]) .skip
def z102_13:LC:=.seq (.reg [0,3,4,9,10,59] [kR 0 21 (.mov 0),kR 1 22 (.mov 4),kR 2 23 (.ixS 7 21 22),kR 3 24 (.fa 23 0),kR 4 25 (.fa 24 1),kR 5 26 (.ld 1 25),kR 6 27 (.eq 26 (k8 1)),kR 7 28 (.mov 27),⟨8,some 29,some (28,true),.mov 4,false,false⟩,⟨9,some 30,some (28,true),.mov 0,false,false⟩,⟨10,some 31,some (28,true),.len false 30,false,false⟩,⟨11,some 32,some (28,true),.sub 31 (ki 1),false,false⟩,⟨12,some 33,some (28,true),.eq 29 32,false,false⟩,⟨13,some 34,some (28,true),.mov 33,false,false⟩,⟨14,some 35,some (34,false),.mov 0,false,false⟩,⟨15,some 36,some (34,false),.mov 4,false,false⟩,⟨16,some 37,some (34,false),.add 36 (ki 1),false,false⟩,⟨17,some 38,some (34,false),.ixS 7 35 37,false,false⟩,⟨18,some 39,some (34,false),.faddr 38 0,false,false⟩,⟨19,some 40,some (34,false),.faddr 39 1,false,false⟩,⟨20,some 41,some (34,false),.load false 1 40,false,false⟩,⟨21,some 42,some (34,false),.cmp .neq 41 (k8 2),false,false⟩,⟨22,some 43,some (28,true),.pick 34 kt 42,false,false⟩,⟨23,some 44,some (28,true),.mov 43,false,false⟩,⟨24,some 45,some (44,false),.mov 0,false,false⟩,⟨25,some 46,some (44,false),.mov 4,false,false⟩,⟨26,some 47,some (44,false),.add 46 (ki 1),false,false⟩,⟨27,some 48,some (44,false),.ixS 7 45 47,false,false⟩,⟨28,some 49,some (44,false),.faddr 48 6,false,false⟩,⟨29,some 50,some (44,false),.load false 1 49,false,false⟩,⟨30,some 51,some (44,false),.mov 0,false,false⟩,⟨31,some 52,some (44,false),.mov 4,false,false⟩,⟨32,some 53,some (44,false),.ixS 7 51 52,false,false⟩,⟨33,some 54,some (44,false),.faddr 53 6,false,false⟩,⟨34,some 55,some (44,false),.load false 1 54,false,false⟩,⟨35,some 56,some (44,false),.add 55 (ki 1),false,false⟩,⟨36,some 57,some (44,false),.cmp .neq 50 56,false,false⟩,⟨37,some 58,some (28,true),.pick 44 kt 57,false,false⟩,kR 38 59 (.pick 28 58 kf)]) z102_14
def z102_16:LC:=.cond 105 (.stm [0,3,9,10] [kM 106 3,kM 107 4,kM 108 0,kM 109 4,sd 110 (.ixS 7 108 109),kF 111 110 0,kF 112 111 2,sd 113 (.load true 4 112),sd 114 (.call 92 [113]),sd 115 (.ixS 6 106 107),sn (.store 6 115 114)]) .skip
def z102_15:LC:=.seq (.reg [0,3,4,9,10,105] [kR 0 70 (.mov 0),kR 1 71 (.mov 4),kR 2 72 (.ixS 7 70 71),kR 3 73 (.fa 72 0),kR 4 74 (.fa 73 1),kR 5 75 (.ld 1 74),kR 6 76 (.eq 75 (k8 2)),kR 7 77 (.mov 76),⟨8,some 78,some (77,true),.mov 4,false,false⟩,⟨9,some 79,some (77,true),.eq 78 (ki 0),false,false⟩,⟨10,some 80,some (77,true),.mov 79,false,false⟩,⟨11,some 81,some (80,false),.mov 0,false,false⟩,⟨12,some 82,some (80,false),.mov 4,false,false⟩,⟨13,some 83,some (80,false),.sub 82 (ki 1),false,false⟩,⟨14,some 84,some (80,false),.ixS 7 81 83,false,false⟩,⟨15,some 85,some (80,false),.faddr 84 0,false,false⟩,⟨16,some 86,some (80,false),.faddr 85 1,false,false⟩,⟨17,some 87,some (80,false),.load false 1 86,false,false⟩,⟨18,some 88,some (80,false),.cmp .neq 87 (k8 1),false,false⟩,⟨19,some 89,some (77,true),.pick 80 kt 88,false,false⟩,⟨20,some 90,some (77,true),.mov 89,false,false⟩,⟨21,some 91,some (90,false),.mov 0,false,false⟩,⟨22,some 92,some (90,false),.mov 4,false,false⟩,⟨23,some 93,some (90,false),.sub 92 (ki 1),false,false⟩,⟨24,some 94,some (90,false),.ixS 7 91 93,false,false⟩,⟨25,some 95,some (90,false),.faddr 94 6,false,false⟩,⟨26,some 96,some (90,false),.load false 1 95,false,false⟩,⟨27,some 97,some (90,false),.mov 0,false,false⟩,⟨28,some 98,some (90,false),.mov 4,false,false⟩,⟨29,some 99,some (90,false),.ixS 7 97 98,false,false⟩,⟨30,some 100,some (90,false),.faddr 99 6,false,false⟩,⟨31,some 101,some (90,false),.load false 1 100,false,false⟩,⟨32,some 102,some (90,false),.sub 101 (ki 1),false,false⟩,⟨33,some 103,some (90,false),.cmp .neq 96 102,false,false⟩,⟨34,some 104,some (77,true),.pick 90 kt 103,false,false⟩,kR 35 105 (.pick 77 104 kf)]) z102_16
def z102_12:LC:=.seq z102_13 z102_15
def z102_11:LC:=.seq (.stm [0,3,4,9,10] [kM 13 3,kM 14 4,kM 15 0,kM 16 4,sd 17 (.ixS 7 15 16),kF 18 17 0,sd 19 (.load true 6 18),sd 20 (.ixS 6 13 14),sn (.store 6 20 19)]) z102_12
def z102_10:LC:=.seq (.stm [0,3,4,9,10] [kM 12 10,kM 4 12]) z102_11
def z102_9:LC:=.block 1 z102_10
def z102_8:LC:=.seq z102_9 (.stm [0,3,9,10] [sd 116 (.add 10 (ki 1)),kM 10 116])
def z102_6:LC:=.seq z102_7 z102_8
def z102_5:LC:=.seq (.stm [0,3,9,10,11] [sd 11 (.lt 10 9)]) z102_6
def z102_4:LC:=.loop z102_5
def z102_3:LC:=.block 0 z102_4
def z102_2:LC:=.seq (.stm [0,3,9,10] [kM 8 0,sd 9 (.len false 8),kM 10 (ki 0)]) z102_3
def z102_17:LC:=.seq (.stm [2] [kM 117 3,kM 2 117]) .ret
def z102_1:LC:=.seq z102_2 z102_17
def z102_0:LC:=.seq (.stm [0,3] [kM 5 0,sd 6 (.len false 5),sd 7 (.mksl .cell 20 6 6),kM 3 7]) z102_1
def z102:LC:=.seq (.stm [0] [kM 2 kn]) z102_0
theorem jmt:jaH Tryz.prog eqs0 94 z102 [.t 2] 118=true:=by kernel_rfl
def z103_3:LC:=.seq (.stm [8] [kM 8 kn]) .ret
def z103_2:LC:=.cond 18 z103_3 .skip
def z103_1:LC:=.seq (.stm [0,1,2,7,18] [kM 11 0,sd 12 (.call 76 [11]),sd 13 (.un .not 12),kM 14 13,.g 14 false [sd 15 (.load true 4 7),sd 16 (.call 50 [15]),sd 17 (.un .not 16)] 18 kt 17]) z103_2
def z103_8:LC:=.cond 34 (.stm [0,1,2,7,9,10] [kM 35 10,kM 36 1,kM 37 2,sd 38 (.load true 4 7),sd 39 (.build [.int .i32 0,.int .u8 0,.int .u32 0,.int .u32 0,.int .u8 0,.int .u16 0] [(0,1,37),(2,4,38)]),sd 40 (.build [.int .i32 0,.int .u8 0,.int .u32 0,.int .u32 0,.int .u8 0,.int .u16 0,.int .i64 0] [(0,6,39),(6,1,(ki (-10)))]),sd 41 (.ixS 7 35 36),sn (.store 7 41 40)]) .skip
def z103_7:LC:=.seq (.stm [0,1,2,7,9,10,34] [kM 23 1,sd 24 (.cmp .geq 23 (ki 0)),kM 25 24,.g 25 true [kM 26 1,kM 27 0,sd 28 (.len false 27),sd 29 (.lt 26 28)] 30 29 kf,kM 31 30,.g 31 true [kM 32 9,sd 33 (.eq 32 (ki 1))] 34 33 kf]) z103_8
def z103_12:LC:=.seq (.stm [1,7,10] [kM 55 10,kM 56 1,kM 57 2,sd 58 (.load true 4 7),sd 59 (.build [.int .i32 0,.int .u8 0,.int .u32 0,.int .u32 0,.int .u8 0,.int .u16 0] [(0,1,57),(1,1,(k8 1)),(2,4,58)]),sd 60 (.build [.int .i32 0,.int .u8 0,.int .u32 0,.int .u32 0,.int .u8 0,.int .u16 0,.int .i64 0] [(0,6,59),(6,1,(ki (-10)))]),sd 61 (.ixS 7 55 56),sn (.store 7 61 60)]) (.stm [10] [kM 62 10,kM 63 1,sd 64 (.add 63 (ki 1)),sd 65 (.load true 4 7),sd 66 (.build [.int .i32 0,.int .u8 0,.int .u32 0,.int .u32 0,.int .u8 0,.int .u16 0] [(1,1,(k8 2)),(2,4,65)]),sd 67 (.build [.int .i32 0,.int .u8 0,.int .u32 0,.int .u32 0,.int .u8 0,.int .u16 0,.int .i64 0] [(0,6,66),(6,1,(ki (-9)))]),sd 68 (.ixS 7 62 64),sn (.store 7 68 67)])
def z103_11:LC:=.cond 54 z103_12 .skip
def z103_10:LC:=.seq (.stm [1,2,7,10,54] [kM 42 1,sd 43 (.cmp .geq 42 (ki 0)),kM 44 43,.g 44 true [kM 45 1,kM 46 0,sd 47 (.len false 46),sd 48 (.sub 47 (ki 1)),sd 49 (.lt 45 48)] 50 49 kf,kM 51 50,.g 51 true [kM 52 9,sd 53 (.eq 52 (ki 2))] 54 53 kf]) z103_11
def z103_13:LC:=.seq (.stm [8] [kM 69 10,sd 70 (.call 94 [69]),kM 8 70]) .ret
def z103_9:LC:=.seq z103_10 z103_13
def z103_6:LC:=.seq z103_7 z103_9
def z103_5:LC:=.seq (.stm [0,1,2,7,9,10] [kM 21 0,sd 22 (.call 93 [21]),kM 10 22]) z103_6
def z103_4:LC:=.seq (.stm [0,1,2,7,9] [kM 19 2,sd 20 (.call 46 [19]),kM 9 20]) z103_5
def z103_0:LC:=.seq z103_1 z103_4
def z103:LC:=.seq (.stm [0,1,2,7] [sd 7 (.box 3),kM 8 kn]) z103_0
theorem jpc:jaH Tryz.prog eqs0 52 z103 [.t 8] 71=true:=by kernel_rfl
def z104_4:LC:=.seq (.stm [14] [sd 29 (.build [.int .i64 0,.int .i64 0,.nils] []),sn (.store 3 14 29)]) .ret
def z104_3:LC:=.cond 28 z104_4 .skip
def z104_2:LC:=.seq (.stm [1,2,3,4,5,13,14,15,28] [kM 22 16,sd 23 (.un .not 22),kM 24 23,.g 24 false [sd 25 (.load true 4 13),sd 26 (.call 50 [25]),sd 27 (.un .not 26)] 28 kt 27]) z104_3
def z104_15:LC:=.cond 65 (.reg [14,15] [kR 0 67 (.mov 15),kR 1 68 (.mov 3),kR 2 69 (.mov 15),kR 3 70 (.mov 3),kR 4 71 (.ixS 1 69 70),kR 5 72 (.ld 1 71),kR 6 73 (.mov 2),kR 7 74 (.mov 4),kR 8 75 (.load true 4 13),⟨9,some 76,none,.call 54 [72,73,74,75],false,true⟩,kR 10 77 (.ixS 1 67 68),⟨11,none,none,.store 1 77 76,false,true⟩]) .skip
def z104_14:LC:=.seq (.stm [2,3,4,13,14,15,65] [sd 66 (.eq 38 (ki 2)),kM 65 66]) z104_15
def z104_13:LC:=.cond 52 (.reg [14,15] [kR 0 54 (.mov 15),kR 1 55 (.mov 3),kR 2 56 (.mov 15),kR 3 57 (.mov 3),kR 4 58 (.ixS 1 56 57),kR 5 59 (.ld 1 58),kR 6 60 (.mov 2),kR 7 61 (.mov 4),kR 8 62 (.load true 4 13),⟨9,some 63,none,.call 53 [59,60,61,62],false,true⟩,kR 10 64 (.ixS 1 54 55),⟨11,none,none,.store 1 64 63,false,true⟩]) z104_14
def z104_12:LC:=.seq (.stm [2,3,4,13,14,15,38,52] [sd 53 (.eq 38 (ki 1)),kM 52 53]) z104_13
def z104_11:LC:=.cond 39 (.reg [14,15] [kR 0 41 (.mov 15),kR 1 42 (.mov 3),kR 2 43 (.mov 15),kR 3 44 (.mov 3),kR 4 45 (.ixS 1 43 44),kR 5 46 (.ld 1 45),kR 6 47 (.mov 2),kR 7 48 (.mov 5),kR 8 49 (.load true 4 13),⟨9,some 50,none,.call 52 [46,47,48,49],false,true⟩,kR 10 51 (.ixS 1 41 42),⟨11,none,none,.store 1 51 50,false,true⟩]) z104_12
def z104_10:LC:=.seq (.stm [2,3,4,5,13,14,15,38,39] [sd 40 (.eq 38 (ki 0)),kM 39 40]) z104_11
def z104_9:LC:=.block 0 z104_10
def z104_8:LC:=.seq (.stm [2,3,4,5,13,14,15,38] [kM 38 1]) z104_9
def z104_7:LC:=.cond 37 z104_8 .skip
def z104_6:LC:=.seq (.stm [1,2,3,4,5,13,14,15,37] [kM 30 3,sd 31 (.cmp .geq 30 (ki 0)),kM 32 31,.g 32 true [kM 33 3,kM 34 15,sd 35 (.len false 34),sd 36 (.lt 33 35)] 37 36 kf]) z104_7
def z104_16:LC:=.seq (.stm [14] [kM 78 15,sd 79 (.call 35 [78]),sn (.store 3 14 79)]) .ret
def z104_5:LC:=.seq z104_6 z104_16
def z104_1:LC:=.seq z104_2 z104_5
def z104_0:LC:=.seq (.stm [1,2,3,4,5,13,14,15,16] [sd 18 (.load true 3 7),sd 19 (.call 42 [18]),kM 17 19,sd 20 (.ext 17 0),sd 21 (.ext 17 1),kM 15 20,kM 16 21]) z104_1
def z104:LC:=.seq (.stm [1,2,3,4,5,7,13,14] [sd 7 (.box 0),sd 13 (.box 6),sd 14 (.zero [.int .i64 0,.int .i64 0,.nils])]) z104_0
theorem jsG:jaH Tryz.prog eqs0 20 z104 [.c 14 true 3] 80=true:=by kernel_rfl
def z105_4:LC:=.seq (.stm [10] [sd 29 (.build [.int .i64 0,.int .i64 0,.nils] []),sn (.store 3 10 29)]) .ret
def z105_3:LC:=.cond 28 z105_4 .skip
def z105_2:LC:=.seq (.stm [1,2,3,5,9,10,11,28] [kM 22 12,sd 23 (.un .not 22),kM 24 23,.g 24 false [sd 25 (.load true 4 9),sd 26 (.call 50 [25]),sd 27 (.un .not 26)] 28 kt 27]) z105_3
def z105_8:LC:=.seq (.stm [10] [kM 43 11,sd 44 (.call 35 [43]),sn (.store 3 10 44)]) .ret
def z105_7:LC:=.cond 42 z105_8 .skip
def z105_6:LC:=.seq (.stm [1,2,3,5,9,10,11,42] [kM 30 1,sd 31 (.lt 30 (ki 0)),kM 32 31,.g 32 false [kM 33 2,kM 34 11,sd 35 (.len false 34),sd 36 (.cmp .geq 33 35)] 37 kt 36,kM 38 37,.g 38 false [kM 39 1,kM 40 2,sd 41 (.cmp .gtr 39 40)] 42 kt 41]) z105_7
def z105_15:LC:=.cond 51 .skip (.exit 0)
def z105_14:LC:=.seq (.stm [1,2,3,5,9,10,11,13,51] [kM 45 13,kM 46 3,sd 47 (.lt 45 46),kM 48 47,.g 48 true [kM 49 13,sd 50 (.lt 49 (ki 24))] 51 50 kf]) z105_15
def z105_24:LC:=.cond 57 .skip (.exit 2)
def z105_23:LC:=.seq (.stm [1,2,3,5,9,10,11,13,14,57] [kM 55 14,kM 56 2,sd 57 (.lt 55 56)]) z105_24
def z105_26:LC:=.block 3 (.stm [1,2,3,5,9,10,11,13,14] [kM 60 11,kM 61 14,kM 62 11,kM 63 14,sd 64 (.add 63 (ki 1)),sd 65 (.ixS 1 62 64),kL 66 1 65,sd 67 (.ixS 1 60 61),sn (.store 1 67 66)])
def z105_25:LC:=.seq z105_26 (.stm [1,2,3,5,9,10,11,13,14] [kM 58 14,sd 59 (.add 58 (ki 1)),kM 14 59])
def z105_22:LC:=.seq z105_23 z105_25
def z105_21:LC:=.loop z105_22
def z105_20:LC:=.block 2 z105_21
def z105_19:LC:=.seq (.stm [1,2,3,5,9,10,11,13,14] [kM 54 1,kM 14 54]) z105_20
def z105_18:LC:=.seq z105_19 (.stm [1,2,3,5,9,10,11,13] [kM 68 11,kM 69 2,kF 70 5 0,kL 71 1 70,sd 72 (.load true 4 9),sd 73 (.call 51 [71,72]),sd 74 (.ixS 1 68 69),sn (.store 1 74 73)])
def z105_17:LC:=.block 1 z105_18
def z105_16:LC:=.seq z105_17 (.stm [1,2,3,5,9,10,11,13] [kM 52 13,sd 53 (.add 52 (ki 1)),kM 13 53])
def z105_13:LC:=.seq z105_14 z105_16
def z105_12:LC:=.loop z105_13
def z105_11:LC:=.block 0 z105_12
def z105_10:LC:=.seq (.stm [1,2,3,5,9,10,11,13] [kM 13 (ki 0)]) z105_11
def z105_33:LC:=.cond 81 .skip (.exit 4)
def z105_32:LC:=.seq (.stm [1,2,3,5,9,10,11,15,81] [kM 75 15,kM 76 3,sd 77 (.cmp .gtr 75 76),kM 78 77,.g 78 true [kM 79 15,sd 80 (.cmp .gtr 79 (ki (-24)))] 81 80 kf]) z105_33
def z105_42:LC:=.cond 87 .skip (.exit 6)
def z105_41:LC:=.seq (.stm [1,2,3,5,9,10,11,15,16,87] [kM 85 16,kM 86 1,sd 87 (.cmp .gtr 85 86)]) z105_42
def z105_44:LC:=.block 7 (.stm [1,2,3,5,9,10,11,15,16] [kM 90 11,kM 91 16,kM 92 11,kM 93 16,sd 94 (.sub 93 (ki 1)),sd 95 (.ixS 1 92 94),kL 96 1 95,sd 97 (.ixS 1 90 91),sn (.store 1 97 96)])
def z105_43:LC:=.seq z105_44 (.stm [1,2,3,5,9,10,11,15,16] [kM 88 16,sd 89 (.sub 88 (ki 1)),kM 16 89])
def z105_40:LC:=.seq z105_41 z105_43
def z105_39:LC:=.loop z105_40
def z105_38:LC:=.block 6 z105_39
def z105_37:LC:=.seq (.stm [1,2,3,5,9,10,11,15,16] [kM 84 2,kM 16 84]) z105_38
def z105_36:LC:=.seq z105_37 (.stm [1,2,3,5,9,10,11,15] [kM 98 11,kM 99 1,kF 100 5 0,kL 101 1 100,sd 102 (.load true 4 9),sd 103 (.call 51 [101,102]),sd 104 (.ixS 1 98 99),sn (.store 1 104 103)])
def z105_35:LC:=.block 5 z105_36
def z105_34:LC:=.seq z105_35 (.stm [1,2,3,5,9,10,11,15] [kM 82 15,sd 83 (.sub 82 (ki 1)),kM 15 83])
def z105_31:LC:=.seq z105_32 z105_34
def z105_30:LC:=.loop z105_31
def z105_29:LC:=.block 4 z105_30
def z105_28:LC:=.seq (.stm [1,2,3,5,9,10,11,15] [kM 15 (ki 0)]) z105_29
def z105_45:LC:=.seq (.stm [10] [kM 105 11,sd 106 (.call 35 [105]),sn (.store 3 10 106)]) .ret
def z105_27:LC:=.seq z105_28 z105_45
def z105_9:LC:=.seq z105_10 z105_27
def z105_5:LC:=.seq z105_6 z105_9
def z105_1:LC:=.seq z105_2 z105_5
def z105_0:LC:=.seq (.stm [1,2,3,5,9,10,11,12] [sd 18 (.load true 3 5),sd 19 (.call 42 [18]),kM 17 19,sd 20 (.ext 17 0),sd 21 (.ext 17 1),kM 11 20,kM 12 21]) z105_1
def z105:LC:=.seq (.stm [1,2,3,5,9,10] [sd 5 (.box 0),sd 9 (.box 4),sd 10 (.zero [.int .i64 0,.int .i64 0,.nils])]) z105_0
theorem jji:jaH Tryz.prog eqs0 18 z105 [.c 10 true 3] 107=true:=by kernel_rfl
def z106_0:LC:=.seq (.stm [2] [kF 3 1 0,kL 4 1 3,kF 5 1 1,kL 6 1 5,kF 7 1 2,kL 8 1 7,sd 9 (.build [.int .i64 0,.int .i64 0,.nils] [(0,1,4),(1,1,6),(2,1,8)]),sn (.store 3 2 9)]) .ret
def z106:LC:=.seq (.stm [1,2] [sd 1 (.box 0),sd 2 (.zero [.int .i64 0,.int .i64 0,.nils])]) z106_0
theorem jmu:jaH Tryz.prog eqs0 19 z106 [.c 2 true 3] 10=true:=by kernel_rfl
end
end Go.Proofs.YtcfkfgkndncanaaGreatDoor
