/- Texts of this claim, merged by a program of this claim: KApply. -/
import Derived.Test.YtcfkfgkndncanaaGreatDoorMs5
namespace Go.Proofs.YtcfkfgkndncanaaGreatDoor
set_option linter.unusedVariables false
set_option linter.unusedSimpArgs false
section
open Go.RowKit
set_option maxRecDepth 100000
def z7_1:LC:=.cond 9 (.stm [] [kM 10 2,sd 11 (.mkif 31 10),sn (.panic 11)]) .skip
def z7_0:LC:=.seq (.stm [2,9] [kM 8 2,sd 9 (.cmp .neq 8 (ki 0))]) z7_1
def z7:LC:=.seq (.stm [2] [kM 3 0,sd 4 (.nilck 3),kF 5 4 0,kL 6 1 5,sd 7 (.call 101 [6]),kM 2 7]) z7_0
theorem jbr:jaH Tryz.prog eqs0 61 z7 [] 12=true:=by kernel_rfl
def z8_4:LC:=.cond 20 (.stm [5] [sd 21 (.mkif 31 (ki 3)),sn (.panic 21)]) .skip
def z8_3:LC:=.seq (.stm [5,20] [kM 13 1,sd 14 (.lt 13 (ki 0)),kM 15 14,.g 15 false [kM 16 5,kM 17 1,sd 18 (.conv .u64 true 17),sd 19 (.cmp .gtr 16 18)] 20 kt 19]) z8_4
def z8_5:LC:=.seq (.stm [4] [kM 22 5,sd 23 (.conv .i64 true 22),kM 4 23]) .ret
def z8_2:LC:=.seq z8_3 z8_5
def z8_1:LC:=.seq (.stm [1,5] [kM 11 0,sd 12 (.call 61 [11])]) z8_2
def z8_0:LC:=.seq (.stm [0,1,5] [kM 6 0,sd 7 (.nilck 6),kF 8 7 0,kL 9 1 8,sd 10 (.call 60 [9]),kM 5 10]) z8_1
def z8:LC:=.seq (.stm [0,1] [kM 4 (ki 0)]) z8_0
theorem jbs:jaH Tryz.prog eqs0 62 z8 [.t 4] 24=true:=by kernel_rfl
def z9_4:LC:=.cond 12 (.stm [3] [sd 13 (.mkif 31 (ki 3)),sn (.panic 13)]) .skip
def z9_3:LC:=.seq (.stm [3,12] [kM 11 3,sd 12 (.eq 11 (.c (.int .u64 0)))]) z9_4
def z9_5:LC:=.seq (.stm [2] [kM 14 3,kM 2 14]) .ret
def z9_2:LC:=.seq z9_3 z9_5
def z9_1:LC:=.seq (.stm [3] [kM 9 0,sd 10 (.call 61 [9])]) z9_2
def z9_0:LC:=.seq (.stm [0,3] [kM 4 0,sd 5 (.nilck 4),kF 6 5 0,kL 7 1 6,sd 8 (.call 60 [7]),kM 3 8]) z9_1
def z9:LC:=.seq (.stm [0] [sd 2 (.mov (.c (.int .u64 0)))]) z9_0
theorem jcM:jaH Tryz.prog eqs0 104 z9 [.t 2] 15=true:=by kernel_rfl
def z10_8:LC:=.cond 30 .skip (.exit 0)
def z10_15:LC:=.cond 41 (.stm [0,4,28,29] [sd 42 (.mkif 31 (ki 3)),sn (.panic 42)]) .skip
def z10_14:LC:=.seq (.stm [0,4,28,29,41] [kM 38 4,sd 39 (.b2s 38),sd 40 (.call 99 [39]),sd 41 (.un .not 40)]) z10_15
def z10_13:LC:=.seq z10_14 (.reg [0,28,29] [kR 0 43 (.mov 0),kR 1 44 (.mov 0),kR 2 45 (.nilck 44),kR 3 46 (.fa 45 10),kR 4 47 (.ld 1 46),kR 5 48 (.mov 4),kR 6 49 (.b2s 48),kR 7 50 (.bslice .str [49]),⟨8,some 51,none,.app .str 47 50,false,true⟩,kR 9 52 (.nilck 43),kR 10 53 (.fa 52 10),⟨11,none,none,.store 1 53 51,false,true⟩])
def z10_12:LC:=.seq (.stm [0,4,28,29] [kM 36 0,sd 37 (.call 61 [36])]) z10_13
def z10_11:LC:=.seq (.stm [0,4,28,29] [kM 31 0,sd 32 (.nilck 31),kF 33 32 0,kL 34 1 33,sd 35 (.call 63 [34,(ki 64)]),kM 4 35]) z10_12
def z10_10:LC:=.block 1 z10_11
def z10_9:LC:=.seq z10_10 (.stm [0,28,29] [sd 54 (.add 29 (ki 1)),kM 29 54])
def z10_7:LC:=.seq z10_8 z10_9
def z10_6:LC:=.seq (.stm [0,28,29,30] [sd 30 (.lt 29 28)]) z10_7
def z10_5:LC:=.loop z10_6
def z10_4:LC:=.block 0 z10_5
def z10_3:LC:=.seq (.stm [0,28,29] [kM 28 3,kM 29 (ki 0)]) z10_4
def z10_2:LC:=.seq z10_3 (.reg [] [kR 0 55 (.mov 0),kR 1 56 (.mov 0),kR 2 57 (.nilck 56),kR 3 58 (.fa 57 1),kR 4 59 (.load true 9 58),kR 5 60 (.mov 0),kR 6 61 (.nilck 60),kR 7 62 (.fa 61 10),kR 8 63 (.ld 1 62),⟨9,some 64,none,.call 85 [59,63],false,true⟩,kR 10 65 (.nilck 55),kR 11 66 (.fa 65 1),kR 12 67 (.fa 66 2),⟨13,none,none,.store 1 67 64,false,true⟩])
def z10_1:LC:=.seq (.stm [0,3] [kM 17 0,kM 18 0,sd 19 (.nilck 18),kF 20 19 1,kF 21 20 8,kL 22 1 21,kM 23 2,sd 24 (.sl false 1 22 none (some 23) none),sd 25 (.call 25 [24]),sd 26 (.nilck 17),kF 27 26 10,sn (.store 1 27 25)]) z10_2
def z10_0:LC:=.seq (.stm [0,2,3] [kM 13 0,kM 14 2,sd 15 (.sub (ki 16) 14),sd 16 (.call 62 [13,15]),kM 3 16]) z10_1
def z10:LC:=.seq (.stm [0,2] [kM 5 0,kM 6 0,sd 7 (.nilck 6),kF 8 7 1,kF 9 8 8,kL 10 1 9,sd 11 (.len false 10),sd 12 (.call 62 [5,11]),kM 2 12]) z10_0
theorem jdK:jaH Tryz.prog eqs0 64 z10 [] 68=true:=by kernel_rfl
def z11_7:LC:=.cond 19 .skip (.exit 0)
def z11_6:LC:=.seq (.stm [0,2,3,4,19] [kM 18 4,sd 19 (.cmp .gtr 18 (.c (.int .u64 0)))]) z11_7
def z11_11:LC:=.seq (.reg [0,2,3,4] [kR 0 34 (.mov 0),kR 1 35 (.nilck 34),kR 2 36 (.fa 35 1),kR 3 37 (.load true 9 36),kR 4 38 (.mov 3),kR 6 40 (.load true 9 2),kR 7 41 (.mov 0),kR 8 42 (.mov 0),kR 9 43 (.nilck 42),kR 10 44 (.fa 43 1),kR 11 45 (.fa 44 1),kR 12 46 (.ld 1 45),kR 13 47 (.sub 46 (ki 1)),⟨5,some 39,none,.call 105 [37,38],true,true⟩,⟨14,some 48,none,.call 62 [41,47],true,true⟩,⟨15,some 49,none,.call 105 [40,48],false,true⟩,⟨16,some 50,none,.cpy .cell 39 49,false,true⟩]) (.stm [0,2,3,4] [kM 51 3,sd 52 (.add 51 (ki 1)),kM 3 52])
def z11_10:LC:=.seq (.stm [0,2,3,4] [kM 22 3,kM 23 0,kM 24 0,sd 25 (.nilck 24),kF 26 25 1,kF 27 26 1,kL 28 1 27,sd 29 (.sub 28 (ki 1)),kM 30 3,sd 31 (.sub 29 30),sd 32 (.call 62 [23,31]),sd 33 (.add 22 32),kM 3 33]) z11_11
def z11_9:LC:=.block 1 z11_10
def z11_8:LC:=.seq z11_9 (.stm [0,2,3,4] [kM 20 4,sd 21 (.ari .sub true 20 (.c (.int .u64 1))),kM 4 21])
def z11_5:LC:=.seq z11_6 z11_8
def z11_4:LC:=.loop z11_5
def z11_3:LC:=.block 0 z11_4
def z11_2:LC:=.seq (.stm [0,2,3,4] [kM 16 0,sd 17 (.call 104 [16]),kM 4 17]) z11_3
def z11_1:LC:=.seq (.stm [0,2,3] [kM 3 (ki 0)]) z11_2
def z11_0:LC:=.seq (.stm [0,2] [kM 9 0,sd 10 (.nilck 9),kF 11 10 1,kF 12 11 2,kL 13 1 12,sd 14 (.call 24 [13]),kF 15 2 2,sn (.store 1 15 14)]) z11_1
def z11:LC:=.seq (.stm [0,2] [kM 5 0,sd 6 (.nilck 5),kF 7 6 1,sd 8 (.load true 9 7),sd 2 (.zero [.int .i64 0,.int .i64 0,.nils,.int .i64 0,.int .i64 0,.bool false,.int .u8 0,.str (bs []),.nils]),sn (.store 9 2 8)]) z11_0
theorem jdn:jaH Tryz.prog eqs0 66 z11 [] 53=true:=by kernel_rfl
def z12_3:LC:=.cond 9 (.stm [3] [sd 10 (.mkif 31 (ki 3)),sn (.panic 10)]) .skip
def z12_2:LC:=.seq (.stm [3,9] [kM 7 3,sd 8 (.call 127 [7]),sd 9 (.un .not 8)]) z12_3
def z12_4:LC:=.seq (.stm [2] [kM 11 3,kM 2 11]) .ret
def z12_1:LC:=.seq z12_2 z12_4
def z12_0:LC:=.seq (.stm [3] [kM 4 0,sd 5 (.call 62 [4,(ki 4294967295)]),sd 6 (.conv .u32 true 5),kM 3 6]) z12_1
def z12:LC:=.seq (.stm [0] [sd 2 (.mov (.c (.int .u32 0)))]) z12_0
theorem jdL:jaH Tryz.prog eqs0 106 z12 [.t 2] 12=true:=by kernel_rfl
def z13_5:LC:=.cond 18 .skip (.exit 0)
def z13_4:LC:=.seq (.stm [0,2,3,4,18] [kM 17 4,sd 18 (.cmp .gtr 17 (.c (.int .u64 0)))]) z13_5
def z13_12:LC:=.cond 34 (.stm [0,2,3,4,5] [sd 35 (.mkif 31 (ki 3)),sn (.panic 35)]) .skip
def z13_11:LC:=.seq (.stm [0,2,3,4,5,34] [kM 33 5,sd 34 (.eq 33 (ki 0))]) z13_12
def z13_19:LC:=.cond 54 .skip (.exit 2)
def z13_26:LC:=.cond 83 (.stm [0,2,3,4,6,7,8,52,53] [sd 84 (.mkif 31 (ki 3)),sn (.panic 84)]) .skip
def z13_25:LC:=.seq (.reg [0,2,3,4,6,7,8,52,53,83] [kR 0 60 (.mov 8),kR 1 61 (.eq 60 (ki 0)),kR 2 62 (.mov 61),⟨3,some 63,some (62,false),.mov 2,false,false⟩,⟨4,some 64,some (62,false),.mov 3,false,false⟩,⟨5,some 65,some (62,false),.eq 63 64,false,false⟩,kR 6 66 (.pick 62 kt 65),kR 7 67 (.mov 66),⟨8,some 68,some (67,false),.mov 2,false,false⟩,⟨9,some 69,some (67,false),.mov 0,false,false⟩,⟨10,some 70,some (67,false),.nilck 69,false,false⟩,⟨11,some 71,some (67,false),.faddr 70 1,false,false⟩,⟨12,some 72,some (67,false),.faddr 71 0,false,false⟩,⟨13,some 73,some (67,false),.load false 1 72,false,false⟩,⟨14,some 74,some (67,false),.ari .rem false 68 73,false,false⟩,⟨15,some 75,some (67,false),.mov 8,false,false⟩,⟨16,some 76,some (67,false),.add 74 75,false,false⟩,⟨17,some 77,some (67,false),.mov 0,false,false⟩,⟨18,some 78,some (67,false),.nilck 77,false,false⟩,⟨19,some 79,some (67,false),.faddr 78 1,false,false⟩,⟨20,some 80,some (67,false),.faddr 79 0,false,false⟩,⟨21,some 81,some (67,false),.load false 1 80,false,false⟩,⟨22,some 82,some (67,false),.cmp .gtr 76 81,false,false⟩,kR 23 83 (.pick 67 kt 82)]) z13_26
def z13_30:LC:=.cond 96 (.reg [0,2,3,4,6,8,52,53] [kR 0 97 (.mov 0),kR 1 98 (.nilck 97),kR 2 99 (.fa 98 1),kR 3 100 (.fa 99 2),kR 4 101 (.ld 1 100),kR 5 102 (.mov 2),kR 6 103 (.mov 0),kR 7 104 (.nilck 103),kR 8 105 (.fa 104 1),kR 9 106 (.fa 105 2),kR 10 107 (.ld 1 106),kR 11 108 (.mov 2),kR 12 109 (.add 108 (ki 1)),kR 13 110 (.load true 4 6),kR 14 111 (.build [.int .i32 0,.int .u8 0,.int .u32 0,.int .u32 0,.int .u8 0,.int .u16 0] [(1,1,(k8 2)),(2,4,110)]),kR 15 112 (.ixS 6 101 102),kR 16 113 (.fa 112 1),⟨17,none,none,.store 1 113 (k8 1),true,true⟩,kR 18 114 (.ixS 6 107 109),⟨19,none,none,.store 6 114 111,false,true⟩]) .skip
def z13_29:LC:=.seq (.stm [0,2,3,4,6,8,52,53,96] [kM 95 8,sd 96 (.eq 95 (ki 2))]) z13_30
def z13_28:LC:=.seq z13_29 (.stm [0,2,3,4,6,52,53] [kM 115 2,kM 116 8,sd 117 (.add 115 116),kM 2 117])
def z13_27:LC:=.seq (.reg [0,2,3,4,6,8,52,53] [kR 0 85 (.mov 0),kR 1 86 (.nilck 85),kR 2 87 (.fa 86 1),kR 3 88 (.fa 87 2),kR 4 89 (.ld 1 88),kR 5 90 (.mov 2),kR 6 91 (.mov 7),kR 7 92 (.load true 4 6),kR 8 93 (.build [.int .i32 0,.int .u8 0,.int .u32 0,.int .u32 0,.int .u8 0,.int .u16 0] [(0,1,91),(2,4,92)]),kR 9 94 (.ixS 6 89 90),⟨10,none,none,.store 6 94 93,false,true⟩]) z13_28
def z13_24:LC:=.seq z13_25 z13_27
def z13_23:LC:=.seq (.stm [0,2,3,4,6,7,8,52,53] [kM 58 7,sd 59 (.call 59 [58]),kM 8 59]) z13_24
def z13_22:LC:=.seq (.stm [0,2,3,4,6,7,52,53] [kM 55 0,sd 56 (.call 62 [55,(ki 1114111)]),sd 57 (.conv .i32 true 56),kM 7 57]) z13_23
def z13_21:LC:=.block 3 z13_22
def z13_20:LC:=.seq z13_21 (.stm [0,2,3,4,6,52,53] [sd 118 (.add 53 (ki 1)),kM 53 118])
def z13_18:LC:=.seq z13_19 z13_20
def z13_17:LC:=.seq (.stm [0,2,3,4,6,52,53,54] [sd 54 (.lt 53 52)]) z13_18
def z13_16:LC:=.loop z13_17
def z13_15:LC:=.block 2 z13_16
def z13_14:LC:=.seq (.stm [0,2,3,4,6,52,53] [kM 52 5,kM 53 (ki 0)]) z13_15
def z13_13:LC:=.seq (.reg [0,2,3,4,5,6] [kR 0 36 (.mov 0),kR 2 38 (.mov 0),kR 4 40 (.mov 0),kR 7 43 (.mov 0),kR 8 44 (.mov 0),kR 9 45 (.nilck 44),kR 10 46 (.fa 45 10),kR 11 47 (.ld 1 46),kR 12 48 (.len false 47),⟨1,some 37,none,.call 106 [36],true,true⟩,⟨3,some 39,none,.call 106 [38],true,true⟩,⟨5,some 41,none,.call 62 [40,(ki 255)],true,true⟩,kR 6 42 (.conv .u8 true 41),⟨13,some 49,none,.call 62 [43,48],false,true⟩,kR 14 50 (.conv .u16 true 49),kR 15 51 (.build [.int .u32 0,.int .u32 0,.int .u8 0,.int .u16 0] [(0,1,37),(1,1,39),(2,1,42),(3,1,50)]),kR 16 6 (.zero [.int .u32 0,.int .u32 0,.int .u8 0,.int .u16 0]),⟨17,none,none,.store 4 6 51,false,true⟩]) z13_14
def z13_10:LC:=.seq z13_11 z13_13
def z13_9:LC:=.seq (.stm [0,2,3,4,5] [kM 28 0,kM 29 3,kM 30 2,sd 31 (.sub 29 30),sd 32 (.call 62 [28,31]),kM 5 32]) z13_10
def z13_8:LC:=.seq (.stm [0,2,3,4] [kM 21 2,kM 22 0,kM 23 3,kM 24 2,sd 25 (.sub 23 24),sd 26 (.call 62 [22,25]),sd 27 (.add 21 26),kM 2 27]) z13_9
def z13_7:LC:=.block 1 z13_8
def z13_6:LC:=.seq z13_7 (.stm [0,2,3,4] [kM 19 4,sd 20 (.ari .sub true 19 (.c (.int .u64 1))),kM 4 20])
def z13_3:LC:=.seq z13_4 z13_6
def z13_2:LC:=.loop z13_3
def z13_1:LC:=.block 0 z13_2
def z13_0:LC:=.seq (.stm [0,2,3,4] [kM 15 0,sd 16 (.call 104 [15]),kM 4 16]) z13_1
def z13:LC:=.seq (.reg [0,2,3] [kR 0 9 (.mov 0),kR 1 10 (.nilck 9),kR 2 11 (.fa 10 1),kR 3 12 (.fa 11 2),kR 4 13 (.ld 1 12),kR 5 14 (.len false 13),kR 6 2 (.mov (ki 0)),kR 7 3 (.mov 14)]) z13_0
theorem jd5:jaH Tryz.prog eqs0 67 z13 [] 119=true:=by kernel_rfl
def z14_9:LC:=.cond 37 (.stm [0,4,5] [sd 38 (.mkif 31 (ki 3)),sn (.panic 38)]) .skip
def z14_8:LC:=.seq (.stm [0,4,5,37] [kM 26 4,sd 27 (.cmp .gtr 26 (.c (.int .u64 80))),kM 28 27,.g 28 false [kM 29 5,sd 30 (.cmp .gtr 29 (.c (.int .u64 24)))] 31 kt 30,kM 32 31,.g 32 false [kM 33 4,kM 34 5,sd 35 (.ari .mul true 33 34),sd 36 (.eq 35 (.c (.int .u64 0)))] 37 kt 36]) z14_9
def z14_10:LC:=.seq (.stm [0] [kM 40 0,kM 41 4,sd 42 (.conv .i64 true 41),kM 43 5,sd 44 (.conv .i64 true 43),sd 45 (.call 48 [42,44]),kM 39 45,sd 46 (.ext 39 0),sd 47 (.ext 39 1),sd 48 (.nilck 40),kF 49 48 1,sn (.store 9 49 46)]) (.stm [] [kM 50 0,sd 51 (.nilck 50),kF 52 51 10,sn (.store 1 52 kn)])
def z14_7:LC:=.seq z14_8 z14_10
def z14_6:LC:=.seq (.stm [0,4,5] [kM 24 0,sd 25 (.call 61 [24])]) z14_7
def z14_5:LC:=.seq (.stm [0,4,5] [kM 19 0,sd 20 (.nilck 19),kF 21 20 0,kL 22 1 21,sd 23 (.call 60 [22]),kM 5 23]) z14_6
def z14_4:LC:=.seq (.stm [0,4] [kM 17 0,sd 18 (.call 61 [17])]) z14_5
def z14_3:LC:=.seq (.stm [0,4] [kM 12 0,sd 13 (.nilck 12),kF 14 13 0,kL 15 1 14,sd 16 (.call 60 [15]),kM 4 16]) z14_4
def z14_14:LC:=.seq (.stm [0] [kM 67 0,kM 68 0,kM 69 0,sd 70 (.nilck 69),kF 71 70 1,kF 72 71 1,kL 73 1 72,sd 74 (.sub 73 (ki 1)),sd 75 (.call 62 [68,74]),sd 76 (.nilck 67),kF 77 76 1,kF 78 77 4,sn (.store 1 78 75)]) (.stm [] [kM 79 0,kM 80 0,sd 81 (.call 62 [80,(ki 1)]),sd 82 (.eq 81 (ki 1)),sd 83 (.nilck 79),kF 84 83 1,kF 85 84 5,sn (.store 1 85 82)])
def z14_13:LC:=.seq (.stm [0] [kM 55 0,kM 56 0,kM 57 0,sd 58 (.nilck 57),kF 59 58 1,kF 60 59 0,kL 61 1 60,sd 62 (.sub 61 (ki 1)),sd 63 (.call 62 [56,62]),sd 64 (.nilck 55),kF 65 64 1,kF 66 65 3,sn (.store 1 66 63)]) z14_14
def z14_18:LC:=.seq (.stm [0,6] [kM 93 0,sd 94 (.call 61 [93])]) (.stm [] [kM 95 0,kM 96 6,sd 97 (.b2s 96),sd 98 (.nilck 95),kF 99 98 1,kF 100 99 7,sn (.store 1 100 97)])
def z14_17:LC:=.seq (.stm [0,6] [kM 88 0,sd 89 (.nilck 88),kF 90 89 0,kL 91 1 90,sd 92 (.call 63 [91,(ki 64)]),kM 6 92]) z14_18
def z14_28:LC:=.cond 126 (.stm [0,7] [sd 127 (.mkif 31 (ki 3)),sn (.panic 127)]) .skip
def z14_27:LC:=.seq (.stm [0,7,126] [kM 125 7,sd 126 (.eq 125 (ki 0))]) z14_28
def z14_32:LC:=.cond 133 (.stm [0,8] [kM 134 7,sd 135 (.un .neg 134),sd 136 (.ari .quo false 135 (ki 2)),kM 8 136]) .skip
def z14_31:LC:=.seq (.stm [0,7,8,133] [kM 131 7,sd 132 (.ari .rem false 131 (ki 2)),sd 133 (.eq 132 (ki 0))]) z14_32
def z14_30:LC:=.seq z14_31 (.stm [] [kM 137 0,kM 138 0,sd 139 (.nilck 138),kF 140 139 1,sd 141 (.load true 9 140),kM 142 8,sd 143 (.call 65 [141,142]),sd 144 (.nilck 137),kF 145 144 1,kF 146 145 2,sn (.store 1 146 143)])
def z14_29:LC:=.seq (.stm [0,7,8] [kM 128 7,sd 129 (.add 128 (ki 1)),sd 130 (.ari .quo false 129 (ki 2)),kM 8 130]) z14_30
def z14_26:LC:=.seq z14_27 z14_29
def z14_25:LC:=.seq (.stm [0,7] [kM 116 0,kM 117 0,sd 118 (.nilck 117),kF 119 118 1,kF 120 119 1,kL 121 1 120,sd 122 (.ari .mul false (ki 2) 121),sd 123 (.sub 122 (ki 2)),sd 124 (.call 62 [116,123]),kM 7 124]) z14_26
def z14_36:LC:=.cond 151 (.stm [] [kM 153 0,sd 154 (.call 67 [153])]) .skip
def z14_35:LC:=.seq (.stm [0,151] [sd 152 (.eq 9 (ki 8)),kM 151 152]) z14_36
def z14_34:LC:=.cond 147 (.stm [] [kM 149 0,sd 150 (.call 66 [149])]) z14_35
def z14_33:LC:=.seq (.stm [0,9,147] [sd 148 (.eq 9 (ki 7)),kM 147 148]) z14_34
def z14_24:LC:=.cond 114 z14_25 z14_33
def z14_23:LC:=.seq (.stm [0,9,114] [sd 115 (.eq 9 (ki 6)),kM 114 115]) z14_24
def z14_22:LC:=.cond 110 (.stm [] [kM 112 0,sd 113 (.call 64 [112])]) z14_23
def z14_21:LC:=.seq (.stm [0,9,110] [sd 111 (.eq 9 (ki 5)),kM 110 111]) z14_22
def z14_20:LC:=.cond 101 (.stm [] [kM 103 0,kM 104 0,sd 105 (.call 62 [104,(ki 2)]),sd 106 (.conv .u8 true 105),sd 107 (.nilck 103),kF 108 107 1,kF 109 108 6,sn (.store 1 109 106)]) z14_21
def z14_19:LC:=.seq (.stm [0,9,101] [sd 102 (.eq 9 (ki 4)),kM 101 102]) z14_20
def z14_16:LC:=.cond 86 z14_17 z14_19
def z14_15:LC:=.seq (.stm [0,9,86] [sd 87 (.eq 9 (ki 3)),kM 86 87]) z14_16
def z14_12:LC:=.cond 53 z14_13 z14_15
def z14_11:LC:=.seq (.stm [0,9,53] [sd 54 (.eq 9 (ki 2)),kM 53 54]) z14_12
def z14_2:LC:=.cond 10 z14_3 z14_11
def z14_1:LC:=.seq (.stm [0,9,10] [sd 11 (.eq 9 (ki 1)),kM 10 11]) z14_2
def z14_0:LC:=.block 0 z14_1
def z14:LC:=.seq (.stm [0,9] [kM 9 1]) z14_0
theorem jdM:jaH Tryz.prog eqs0 29 z14 [] 155=true:=by kernel_rfl
end
end Go.Proofs.YtcfkfgkndncanaaGreatDoor
