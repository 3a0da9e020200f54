/- Texts of this claim, merged by a program of this claim: KApply. -/
import Derived.Test.YtcfkfgkndncanaaGreatDoorMt5
namespace Go.Proofs.YtcfkfgkndncanaaGreatDoor
set_option linter.unusedVariables false
set_option linter.unusedSimpArgs false
section
open Go.RowKit
set_option maxRecDepth 100000
def z7_1:LC:=.cond 9 (.stm [] [sd 10 (.mov 2),sd 11 (.mkif 31 10),sn (.panic 11)]) .skip
def z7_0:LC:=.seq (.stm [2,9] [sd 8 (.mov 2),sd 9 (.cmp .neq 8 (ki 0))]) z7_1
def z7:LC:=.seq (.stm [2] [sd 3 (.mov 0),sd 4 (.nilck 3),sd 5 (.faddr 4 0),sd 6 (.load false 1 5),sd 7 (.call 101 [6]),sd 2 (.mov 7)]) z7_0
theorem jbo:jaL Tryz.prog eqs0 61 z7 [] 12=true:=by kernel_rfl
def z8_4:LC:=.cond 20 (.stm [5] [sd 21 (.mkif 31 (ki 3)),sn (.panic 21)]) .skip
def z8_3:LC:=.seq (.stm [5,20] [sd 13 (.mov 1),sd 14 (.cmp .lss 13 (ki 0)),sd 15 (.mov 14),.g 15 false [sd 16 (.mov 5),sd 17 (.mov 1),sd 18 (.conv .u64 true 17),sd 19 (.cmp .gtr 16 18)] 20 (.c (.bool true)) 19]) z8_4
def z8_5:LC:=.seq (.stm [4] [sd 22 (.mov 5),sd 23 (.conv .i64 true 22),sd 4 (.mov 23)]) .ret
def z8_2:LC:=.seq z8_3 z8_5
def z8_1:LC:=.seq (.stm [1,5] [sd 11 (.mov 0),sd 12 (.call 61 [11])]) z8_2
def z8_0:LC:=.seq (.stm [0,1,5] [sd 6 (.mov 0),sd 7 (.nilck 6),sd 8 (.faddr 7 0),sd 9 (.load false 1 8),sd 10 (.call 60 [9]),sd 5 (.mov 10)]) z8_1
def z8:LC:=.seq (.stm [0,1] [sd 4 (.mov (ki 0))]) z8_0
theorem jbp:jaL Tryz.prog eqs0 62 z8 [.t 4] 24=true:=by kernel_rfl
def z9_4:LC:=.cond 12 (.stm [3] [sd 13 (.mkif 31 (ki 3)),sn (.panic 13)]) .skip
def z9_3:LC:=.seq (.stm [3,12] [sd 11 (.mov 3),sd 12 (.cmp .eql 11 (.c (.int .u64 0)))]) z9_4
def z9_5:LC:=.seq (.stm [2] [sd 14 (.mov 3),sd 2 (.mov 14)]) .ret
def z9_2:LC:=.seq z9_3 z9_5
def z9_1:LC:=.seq (.stm [3] [sd 9 (.mov 0),sd 10 (.call 61 [9])]) z9_2
def z9_0:LC:=.seq (.stm [0,3] [sd 4 (.mov 0),sd 5 (.nilck 4),sd 6 (.faddr 5 0),sd 7 (.load false 1 6),sd 8 (.call 60 [7]),sd 3 (.mov 8)]) z9_1
def z9:LC:=.seq (.stm [0] [sd 2 (.mov (.c (.int .u64 0)))]) z9_0
theorem jcx:jaL Tryz.prog eqs0 104 z9 [.t 2] 15=true:=by kernel_rfl
def z10_8:LC:=.cond 30 .skip (.exit 0)
def z10_15:LC:=.cond 41 (.stm [0,4,28,29] [sd 42 (.mkif 31 (ki 3)),sn (.panic 42)]) .skip
def z10_14:LC:=.seq (.stm [0,4,28,29,41] [sd 38 (.mov 4),sd 39 (.b2s 38),sd 40 (.call 99 [39]),sd 41 (.un .not 40)]) z10_15
def z10_13:LC:=.seq z10_14 (.reg [0,28,29] [⟨0,some 43,none,.mov 0,false,false⟩,⟨1,some 44,none,.mov 0,false,false⟩,⟨2,some 45,none,.nilck 44,false,false⟩,⟨3,some 46,none,.faddr 45 10,false,false⟩,⟨4,some 47,none,.load false 1 46,false,false⟩,⟨5,some 48,none,.mov 4,false,false⟩,⟨6,some 49,none,.b2s 48,false,false⟩,⟨7,some 50,none,.bslice .str [49],false,false⟩,⟨8,some 51,none,.app .str 47 50,false,true⟩,⟨9,some 52,none,.nilck 43,false,false⟩,⟨10,some 53,none,.faddr 52 10,false,false⟩,⟨11,none,none,.store 1 53 51,false,true⟩])
def z10_12:LC:=.seq (.stm [0,4,28,29] [sd 36 (.mov 0),sd 37 (.call 61 [36])]) z10_13
def z10_11:LC:=.seq (.stm [0,4,28,29] [sd 31 (.mov 0),sd 32 (.nilck 31),sd 33 (.faddr 32 0),sd 34 (.load false 1 33),sd 35 (.call 63 [34,(ki 64)]),sd 4 (.mov 35)]) z10_12
def z10_10:LC:=.block 1 z10_11
def z10_9:LC:=.seq z10_10 (.stm [0,28,29] [sd 54 (.ari .add false 29 (ki 1)),sd 29 (.mov 54)])
def z10_7:LC:=.seq z10_8 z10_9
def z10_6:LC:=.seq (.stm [0,28,29,30] [sd 30 (.cmp .lss 29 28)]) z10_7
def z10_5:LC:=.loop z10_6
def z10_4:LC:=.block 0 z10_5
def z10_3:LC:=.seq (.stm [0,28,29] [sd 28 (.mov 3),sd 29 (.mov (ki 0))]) z10_4
def z10_2:LC:=.seq z10_3 (.reg [] [⟨0,some 55,none,.mov 0,false,false⟩,⟨1,some 56,none,.mov 0,false,false⟩,⟨2,some 57,none,.nilck 56,false,false⟩,⟨3,some 58,none,.faddr 57 1,false,false⟩,⟨4,some 59,none,.load true 9 58,false,false⟩,⟨5,some 60,none,.mov 0,false,false⟩,⟨6,some 61,none,.nilck 60,false,false⟩,⟨7,some 62,none,.faddr 61 10,false,false⟩,⟨8,some 63,none,.load false 1 62,false,false⟩,⟨9,some 64,none,.call 85 [59,63],false,true⟩,⟨10,some 65,none,.nilck 55,false,false⟩,⟨11,some 66,none,.faddr 65 1,false,false⟩,⟨12,some 67,none,.faddr 66 2,false,false⟩,⟨13,none,none,.store 1 67 64,false,true⟩])
def z10_1:LC:=.seq (.stm [0,3] [sd 17 (.mov 0),sd 18 (.mov 0),sd 19 (.nilck 18),sd 20 (.faddr 19 1),sd 21 (.faddr 20 8),sd 22 (.load false 1 21),sd 23 (.mov 2),sd 24 (.sl false 1 22 none (some 23) none),sd 25 (.call 25 [24]),sd 26 (.nilck 17),sd 27 (.faddr 26 10),sn (.store 1 27 25)]) z10_2
def z10_0:LC:=.seq (.stm [0,2,3] [sd 13 (.mov 0),sd 14 (.mov 2),sd 15 (.ari .sub false (ki 16) 14),sd 16 (.call 62 [13,15]),sd 3 (.mov 16)]) z10_1
def z10:LC:=.seq (.stm [0,2] [sd 5 (.mov 0),sd 6 (.mov 0),sd 7 (.nilck 6),sd 8 (.faddr 7 1),sd 9 (.faddr 8 8),sd 10 (.load false 1 9),sd 11 (.len false 10),sd 12 (.call 62 [5,11]),sd 2 (.mov 12)]) z10_0
theorem jdr:jaL Tryz.prog eqs0 64 z10 [] 68=true:=by kernel_rfl
def z11_7:LC:=.cond 19 .skip (.exit 0)
def z11_6:LC:=.seq (.stm [0,2,3,4,19] [sd 18 (.mov 4),sd 19 (.cmp .gtr 18 (.c (.int .u64 0)))]) z11_7
def z11_11:LC:=.seq (.reg [0,2,3,4] [⟨0,some 34,none,.mov 0,false,false⟩,⟨1,some 35,none,.nilck 34,false,false⟩,⟨2,some 36,none,.faddr 35 1,false,false⟩,⟨3,some 37,none,.load true 9 36,false,false⟩,⟨4,some 38,none,.mov 3,false,false⟩,⟨6,some 40,none,.load true 9 2,false,false⟩,⟨7,some 41,none,.mov 0,false,false⟩,⟨8,some 42,none,.mov 0,false,false⟩,⟨9,some 43,none,.nilck 42,false,false⟩,⟨10,some 44,none,.faddr 43 1,false,false⟩,⟨11,some 45,none,.faddr 44 1,false,false⟩,⟨12,some 46,none,.load false 1 45,false,false⟩,⟨13,some 47,none,.ari .sub false 46 (ki 1),false,false⟩,⟨5,some 39,none,.call 105 [37,38],true,true⟩,⟨14,some 48,none,.call 62 [41,47],true,true⟩,⟨15,some 49,none,.call 105 [40,48],false,true⟩,⟨16,some 50,none,.cpy .cell 39 49,false,true⟩]) (.stm [0,2,3,4] [sd 51 (.mov 3),sd 52 (.ari .add false 51 (ki 1)),sd 3 (.mov 52)])
def z11_10:LC:=.seq (.stm [0,2,3,4] [sd 22 (.mov 3),sd 23 (.mov 0),sd 24 (.mov 0),sd 25 (.nilck 24),sd 26 (.faddr 25 1),sd 27 (.faddr 26 1),sd 28 (.load false 1 27),sd 29 (.ari .sub false 28 (ki 1)),sd 30 (.mov 3),sd 31 (.ari .sub false 29 30),sd 32 (.call 62 [23,31]),sd 33 (.ari .add false 22 32),sd 3 (.mov 33)]) z11_11
def z11_9:LC:=.block 1 z11_10
def z11_8:LC:=.seq z11_9 (.stm [0,2,3,4] [sd 20 (.mov 4),sd 21 (.ari .sub true 20 (.c (.int .u64 1))),sd 4 (.mov 21)])
def z11_5:LC:=.seq z11_6 z11_8
def z11_4:LC:=.loop z11_5
def z11_3:LC:=.block 0 z11_4
def z11_2:LC:=.seq (.stm [0,2,3,4] [sd 16 (.mov 0),sd 17 (.call 104 [16]),sd 4 (.mov 17)]) z11_3
def z11_1:LC:=.seq (.stm [0,2,3] [sd 3 (.mov (ki 0))]) z11_2
def z11_0:LC:=.seq (.stm [0,2] [sd 9 (.mov 0),sd 10 (.nilck 9),sd 11 (.faddr 10 1),sd 12 (.faddr 11 2),sd 13 (.load false 1 12),sd 14 (.call 24 [13]),sd 15 (.faddr 2 2),sn (.store 1 15 14)]) z11_1
def z11:LC:=.seq (.stm [0,2] [sd 5 (.mov 0),sd 6 (.nilck 5),sd 7 (.faddr 6 1),sd 8 (.load true 9 7),sd 2 (.zero [.int .i64 0,.int .i64 0,.nils,.int .i64 0,.int .i64 0,.bool false,.int .u8 0,.str (bs []),.nils]),sn (.store 9 2 8)]) z11_0
theorem jc8:jaL Tryz.prog eqs0 66 z11 [] 53=true:=by kernel_rfl
def z12_3:LC:=.cond 9 (.stm [3] [sd 10 (.mkif 31 (ki 3)),sn (.panic 10)]) .skip
def z12_2:LC:=.seq (.stm [3,9] [sd 7 (.mov 3),sd 8 (.call 127 [7]),sd 9 (.un .not 8)]) z12_3
def z12_4:LC:=.seq (.stm [2] [sd 11 (.mov 3),sd 2 (.mov 11)]) .ret
def z12_1:LC:=.seq z12_2 z12_4
def z12_0:LC:=.seq (.stm [3] [sd 4 (.mov 0),sd 5 (.call 62 [4,(ki 4294967295)]),sd 6 (.conv .u32 true 5),sd 3 (.mov 6)]) z12_1
def z12:LC:=.seq (.stm [0] [sd 2 (.mov (.c (.int .u32 0)))]) z12_0
theorem jds:jaL Tryz.prog eqs0 106 z12 [.t 2] 12=true:=by kernel_rfl
def z13_5:LC:=.cond 18 .skip (.exit 0)
def z13_4:LC:=.seq (.stm [0,2,3,4,18] [sd 17 (.mov 4),sd 18 (.cmp .gtr 17 (.c (.int .u64 0)))]) z13_5
def z13_12:LC:=.cond 34 (.stm [0,2,3,4,5] [sd 35 (.mkif 31 (ki 3)),sn (.panic 35)]) .skip
def z13_11:LC:=.seq (.stm [0,2,3,4,5,34] [sd 33 (.mov 5),sd 34 (.cmp .eql 33 (ki 0))]) z13_12
def z13_19:LC:=.cond 54 .skip (.exit 2)
def z13_26:LC:=.cond 83 (.stm [0,2,3,4,6,7,8,52,53] [sd 84 (.mkif 31 (ki 3)),sn (.panic 84)]) .skip
def z13_25:LC:=.seq (.reg [0,2,3,4,6,7,8,52,53,83] [⟨0,some 60,none,.mov 8,false,false⟩,⟨1,some 61,none,.cmp .eql 60 (ki 0),false,false⟩,⟨2,some 62,none,.mov 61,false,false⟩,⟨3,some 63,some (62,false),.mov 2,false,false⟩,⟨4,some 64,some (62,false),.mov 3,false,false⟩,⟨5,some 65,some (62,false),.cmp .eql 63 64,false,false⟩,⟨6,some 66,none,.pick 62 (.c (.bool true)) 65,false,false⟩,⟨7,some 67,none,.mov 66,false,false⟩,⟨8,some 68,some (67,false),.mov 2,false,false⟩,⟨9,some 69,some (67,false),.mov 0,false,false⟩,⟨10,some 70,some (67,false),.nilck 69,false,false⟩,⟨11,some 71,some (67,false),.faddr 70 1,false,false⟩,⟨12,some 72,some (67,false),.faddr 71 0,false,false⟩,⟨13,some 73,some (67,false),.load false 1 72,false,false⟩,⟨14,some 74,some (67,false),.ari .rem false 68 73,false,false⟩,⟨15,some 75,some (67,false),.mov 8,false,false⟩,⟨16,some 76,some (67,false),.ari .add false 74 75,false,false⟩,⟨17,some 77,some (67,false),.mov 0,false,false⟩,⟨18,some 78,some (67,false),.nilck 77,false,false⟩,⟨19,some 79,some (67,false),.faddr 78 1,false,false⟩,⟨20,some 80,some (67,false),.faddr 79 0,false,false⟩,⟨21,some 81,some (67,false),.load false 1 80,false,false⟩,⟨22,some 82,some (67,false),.cmp .gtr 76 81,false,false⟩,⟨23,some 83,none,.pick 67 (.c (.bool true)) 82,false,false⟩]) z13_26
def z13_30:LC:=.cond 96 (.reg [0,2,3,4,6,8,52,53] [⟨0,some 97,none,.mov 0,false,false⟩,⟨1,some 98,none,.nilck 97,false,false⟩,⟨2,some 99,none,.faddr 98 1,false,false⟩,⟨3,some 100,none,.faddr 99 2,false,false⟩,⟨4,some 101,none,.load false 1 100,false,false⟩,⟨5,some 102,none,.mov 2,false,false⟩,⟨6,some 103,none,.mov 0,false,false⟩,⟨7,some 104,none,.nilck 103,false,false⟩,⟨8,some 105,none,.faddr 104 1,false,false⟩,⟨9,some 106,none,.faddr 105 2,false,false⟩,⟨10,some 107,none,.load false 1 106,false,false⟩,⟨11,some 108,none,.mov 2,false,false⟩,⟨12,some 109,none,.ari .add false 108 (ki 1),false,false⟩,⟨13,some 110,none,.load true 4 6,false,false⟩,⟨14,some 111,none,.build [.int .i32 0,.int .u8 0,.int .u32 0,.int .u32 0,.int .u8 0,.int .u16 0] [(1,1,(.c (.int .u8 2))),(2,4,110)],false,false⟩,⟨15,some 112,none,.ixS 6 101 102,false,false⟩,⟨16,some 113,none,.faddr 112 1,false,false⟩,⟨17,none,none,.store 1 113 (.c (.int .u8 1)),true,true⟩,⟨18,some 114,none,.ixS 6 107 109,false,false⟩,⟨19,none,none,.store 6 114 111,false,true⟩]) .skip
def z13_29:LC:=.seq (.stm [0,2,3,4,6,8,52,53,96] [sd 95 (.mov 8),sd 96 (.cmp .eql 95 (ki 2))]) z13_30
def z13_28:LC:=.seq z13_29 (.stm [0,2,3,4,6,52,53] [sd 115 (.mov 2),sd 116 (.mov 8),sd 117 (.ari .add false 115 116),sd 2 (.mov 117)])
def z13_27:LC:=.seq (.reg [0,2,3,4,6,8,52,53] [⟨0,some 85,none,.mov 0,false,false⟩,⟨1,some 86,none,.nilck 85,false,false⟩,⟨2,some 87,none,.faddr 86 1,false,false⟩,⟨3,some 88,none,.faddr 87 2,false,false⟩,⟨4,some 89,none,.load false 1 88,false,false⟩,⟨5,some 90,none,.mov 2,false,false⟩,⟨6,some 91,none,.mov 7,false,false⟩,⟨7,some 92,none,.load true 4 6,false,false⟩,⟨8,some 93,none,.build [.int .i32 0,.int .u8 0,.int .u32 0,.int .u32 0,.int .u8 0,.int .u16 0] [(0,1,91),(2,4,92)],false,false⟩,⟨9,some 94,none,.ixS 6 89 90,false,false⟩,⟨10,none,none,.store 6 94 93,false,true⟩]) z13_28
def z13_24:LC:=.seq z13_25 z13_27
def z13_23:LC:=.seq (.stm [0,2,3,4,6,7,8,52,53] [sd 58 (.mov 7),sd 59 (.call 59 [58]),sd 8 (.mov 59)]) z13_24
def z13_22:LC:=.seq (.stm [0,2,3,4,6,7,52,53] [sd 55 (.mov 0),sd 56 (.call 62 [55,(ki 1114111)]),sd 57 (.conv .i32 true 56),sd 7 (.mov 57)]) z13_23
def z13_21:LC:=.block 3 z13_22
def z13_20:LC:=.seq z13_21 (.stm [0,2,3,4,6,52,53] [sd 118 (.ari .add false 53 (ki 1)),sd 53 (.mov 118)])
def z13_18:LC:=.seq z13_19 z13_20
def z13_17:LC:=.seq (.stm [0,2,3,4,6,52,53,54] [sd 54 (.cmp .lss 53 52)]) z13_18
def z13_16:LC:=.loop z13_17
def z13_15:LC:=.block 2 z13_16
def z13_14:LC:=.seq (.stm [0,2,3,4,6,52,53] [sd 52 (.mov 5),sd 53 (.mov (ki 0))]) z13_15
def z13_13:LC:=.seq (.reg [0,2,3,4,5,6] [⟨0,some 36,none,.mov 0,false,false⟩,⟨2,some 38,none,.mov 0,false,false⟩,⟨4,some 40,none,.mov 0,false,false⟩,⟨7,some 43,none,.mov 0,false,false⟩,⟨8,some 44,none,.mov 0,false,false⟩,⟨9,some 45,none,.nilck 44,false,false⟩,⟨10,some 46,none,.faddr 45 10,false,false⟩,⟨11,some 47,none,.load false 1 46,false,false⟩,⟨12,some 48,none,.len false 47,false,false⟩,⟨1,some 37,none,.call 106 [36],true,true⟩,⟨3,some 39,none,.call 106 [38],true,true⟩,⟨5,some 41,none,.call 62 [40,(ki 255)],true,true⟩,⟨6,some 42,none,.conv .u8 true 41,false,false⟩,⟨13,some 49,none,.call 62 [43,48],false,true⟩,⟨14,some 50,none,.conv .u16 true 49,false,false⟩,⟨15,some 51,none,.build [.int .u32 0,.int .u32 0,.int .u8 0,.int .u16 0] [(0,1,37),(1,1,39),(2,1,42),(3,1,50)],false,false⟩,⟨16,some 6,none,.zero [.int .u32 0,.int .u32 0,.int .u8 0,.int .u16 0],false,false⟩,⟨17,none,none,.store 4 6 51,false,true⟩]) z13_14
def z13_10:LC:=.seq z13_11 z13_13
def z13_9:LC:=.seq (.stm [0,2,3,4,5] [sd 28 (.mov 0),sd 29 (.mov 3),sd 30 (.mov 2),sd 31 (.ari .sub false 29 30),sd 32 (.call 62 [28,31]),sd 5 (.mov 32)]) z13_10
def z13_8:LC:=.seq (.stm [0,2,3,4] [sd 21 (.mov 2),sd 22 (.mov 0),sd 23 (.mov 3),sd 24 (.mov 2),sd 25 (.ari .sub false 23 24),sd 26 (.call 62 [22,25]),sd 27 (.ari .add false 21 26),sd 2 (.mov 27)]) z13_9
def z13_7:LC:=.block 1 z13_8
def z13_6:LC:=.seq z13_7 (.stm [0,2,3,4] [sd 19 (.mov 4),sd 20 (.ari .sub true 19 (.c (.int .u64 1))),sd 4 (.mov 20)])
def z13_3:LC:=.seq z13_4 z13_6
def z13_2:LC:=.loop z13_3
def z13_1:LC:=.block 0 z13_2
def z13_0:LC:=.seq (.stm [0,2,3,4] [sd 15 (.mov 0),sd 16 (.call 104 [15]),sd 4 (.mov 16)]) z13_1
def z13:LC:=.seq (.reg [0,2,3] [⟨0,some 9,none,.mov 0,false,false⟩,⟨1,some 10,none,.nilck 9,false,false⟩,⟨2,some 11,none,.faddr 10 1,false,false⟩,⟨3,some 12,none,.faddr 11 2,false,false⟩,⟨4,some 13,none,.load false 1 12,false,false⟩,⟨5,some 14,none,.len false 13,false,false⟩,⟨6,some 2,none,.mov (ki 0),false,false⟩,⟨7,some 3,none,.mov 14,false,false⟩]) z13_0
theorem jdN:jaL Tryz.prog eqs0 67 z13 [] 119=true:=by kernel_rfl
def z14_9:LC:=.cond 37 (.stm [0,4,5] [sd 38 (.mkif 31 (ki 3)),sn (.panic 38)]) .skip
def z14_8:LC:=.seq (.stm [0,4,5,37] [sd 26 (.mov 4),sd 27 (.cmp .gtr 26 (.c (.int .u64 80))),sd 28 (.mov 27),.g 28 false [sd 29 (.mov 5),sd 30 (.cmp .gtr 29 (.c (.int .u64 24)))] 31 (.c (.bool true)) 30,sd 32 (.mov 31),.g 32 false [sd 33 (.mov 4),sd 34 (.mov 5),sd 35 (.ari .mul true 33 34),sd 36 (.cmp .eql 35 (.c (.int .u64 0)))] 37 (.c (.bool true)) 36]) z14_9
def z14_10:LC:=.seq (.stm [0] [sd 40 (.mov 0),sd 41 (.mov 4),sd 42 (.conv .i64 true 41),sd 43 (.mov 5),sd 44 (.conv .i64 true 43),sd 45 (.call 48 [42,44]),sd 39 (.mov 45),sd 46 (.ext 39 0),sd 47 (.ext 39 1),sd 48 (.nilck 40),sd 49 (.faddr 48 1),sn (.store 9 49 46)]) (.stm [] [sd 50 (.mov 0),sd 51 (.nilck 50),sd 52 (.faddr 51 10),sn (.store 1 52 (.c .nils))])
def z14_7:LC:=.seq z14_8 z14_10
def z14_6:LC:=.seq (.stm [0,4,5] [sd 24 (.mov 0),sd 25 (.call 61 [24])]) z14_7
def z14_5:LC:=.seq (.stm [0,4,5] [sd 19 (.mov 0),sd 20 (.nilck 19),sd 21 (.faddr 20 0),sd 22 (.load false 1 21),sd 23 (.call 60 [22]),sd 5 (.mov 23)]) z14_6
def z14_4:LC:=.seq (.stm [0,4] [sd 17 (.mov 0),sd 18 (.call 61 [17])]) z14_5
def z14_3:LC:=.seq (.stm [0,4] [sd 12 (.mov 0),sd 13 (.nilck 12),sd 14 (.faddr 13 0),sd 15 (.load false 1 14),sd 16 (.call 60 [15]),sd 4 (.mov 16)]) z14_4
def z14_14:LC:=.seq (.stm [0] [sd 67 (.mov 0),sd 68 (.mov 0),sd 69 (.mov 0),sd 70 (.nilck 69),sd 71 (.faddr 70 1),sd 72 (.faddr 71 1),sd 73 (.load false 1 72),sd 74 (.ari .sub false 73 (ki 1)),sd 75 (.call 62 [68,74]),sd 76 (.nilck 67),sd 77 (.faddr 76 1),sd 78 (.faddr 77 4),sn (.store 1 78 75)]) (.stm [] [sd 79 (.mov 0),sd 80 (.mov 0),sd 81 (.call 62 [80,(ki 1)]),sd 82 (.cmp .eql 81 (ki 1)),sd 83 (.nilck 79),sd 84 (.faddr 83 1),sd 85 (.faddr 84 5),sn (.store 1 85 82)])
def z14_13:LC:=.seq (.stm [0] [sd 55 (.mov 0),sd 56 (.mov 0),sd 57 (.mov 0),sd 58 (.nilck 57),sd 59 (.faddr 58 1),sd 60 (.faddr 59 0),sd 61 (.load false 1 60),sd 62 (.ari .sub false 61 (ki 1)),sd 63 (.call 62 [56,62]),sd 64 (.nilck 55),sd 65 (.faddr 64 1),sd 66 (.faddr 65 3),sn (.store 1 66 63)]) z14_14
def z14_18:LC:=.seq (.stm [0,6] [sd 93 (.mov 0),sd 94 (.call 61 [93])]) (.stm [] [sd 95 (.mov 0),sd 96 (.mov 6),sd 97 (.b2s 96),sd 98 (.nilck 95),sd 99 (.faddr 98 1),sd 100 (.faddr 99 7),sn (.store 1 100 97)])
def z14_17:LC:=.seq (.stm [0,6] [sd 88 (.mov 0),sd 89 (.nilck 88),sd 90 (.faddr 89 0),sd 91 (.load false 1 90),sd 92 (.call 63 [91,(ki 64)]),sd 6 (.mov 92)]) z14_18
def z14_28:LC:=.cond 126 (.stm [0,7] [sd 127 (.mkif 31 (ki 3)),sn (.panic 127)]) .skip
def z14_27:LC:=.seq (.stm [0,7,126] [sd 125 (.mov 7),sd 126 (.cmp .eql 125 (ki 0))]) z14_28
def z14_32:LC:=.cond 133 (.stm [0,8] [sd 134 (.mov 7),sd 135 (.un .neg 134),sd 136 (.ari .quo false 135 (ki 2)),sd 8 (.mov 136)]) .skip
def z14_31:LC:=.seq (.stm [0,7,8,133] [sd 131 (.mov 7),sd 132 (.ari .rem false 131 (ki 2)),sd 133 (.cmp .eql 132 (ki 0))]) z14_32
def z14_30:LC:=.seq z14_31 (.stm [] [sd 137 (.mov 0),sd 138 (.mov 0),sd 139 (.nilck 138),sd 140 (.faddr 139 1),sd 141 (.load true 9 140),sd 142 (.mov 8),sd 143 (.call 65 [141,142]),sd 144 (.nilck 137),sd 145 (.faddr 144 1),sd 146 (.faddr 145 2),sn (.store 1 146 143)])
def z14_29:LC:=.seq (.stm [0,7,8] [sd 128 (.mov 7),sd 129 (.ari .add false 128 (ki 1)),sd 130 (.ari .quo false 129 (ki 2)),sd 8 (.mov 130)]) z14_30
def z14_26:LC:=.seq z14_27 z14_29
def z14_25:LC:=.seq (.stm [0,7] [sd 116 (.mov 0),sd 117 (.mov 0),sd 118 (.nilck 117),sd 119 (.faddr 118 1),sd 120 (.faddr 119 1),sd 121 (.load false 1 120),sd 122 (.ari .mul false (ki 2) 121),sd 123 (.ari .sub false 122 (ki 2)),sd 124 (.call 62 [116,123]),sd 7 (.mov 124)]) z14_26
def z14_36:LC:=.cond 151 (.stm [] [sd 153 (.mov 0),sd 154 (.call 67 [153])]) .skip
def z14_35:LC:=.seq (.stm [0,151] [sd 152 (.cmp .eql 9 (ki 8)),sd 151 (.mov 152)]) z14_36
def z14_34:LC:=.cond 147 (.stm [] [sd 149 (.mov 0),sd 150 (.call 66 [149])]) z14_35
def z14_33:LC:=.seq (.stm [0,9,147] [sd 148 (.cmp .eql 9 (ki 7)),sd 147 (.mov 148)]) z14_34
def z14_24:LC:=.cond 114 z14_25 z14_33
def z14_23:LC:=.seq (.stm [0,9,114] [sd 115 (.cmp .eql 9 (ki 6)),sd 114 (.mov 115)]) z14_24
def z14_22:LC:=.cond 110 (.stm [] [sd 112 (.mov 0),sd 113 (.call 64 [112])]) z14_23
def z14_21:LC:=.seq (.stm [0,9,110] [sd 111 (.cmp .eql 9 (ki 5)),sd 110 (.mov 111)]) z14_22
def z14_20:LC:=.cond 101 (.stm [] [sd 103 (.mov 0),sd 104 (.mov 0),sd 105 (.call 62 [104,(ki 2)]),sd 106 (.conv .u8 true 105),sd 107 (.nilck 103),sd 108 (.faddr 107 1),sd 109 (.faddr 108 6),sn (.store 1 109 106)]) z14_21
def z14_19:LC:=.seq (.stm [0,9,101] [sd 102 (.cmp .eql 9 (ki 4)),sd 101 (.mov 102)]) z14_20
def z14_16:LC:=.cond 86 z14_17 z14_19
def z14_15:LC:=.seq (.stm [0,9,86] [sd 87 (.cmp .eql 9 (ki 3)),sd 86 (.mov 87)]) z14_16
def z14_12:LC:=.cond 53 z14_13 z14_15
def z14_11:LC:=.seq (.stm [0,9,53] [sd 54 (.cmp .eql 9 (ki 2)),sd 53 (.mov 54)]) z14_12
def z14_2:LC:=.cond 10 z14_3 z14_11
def z14_1:LC:=.seq (.stm [0,9,10] [sd 11 (.cmp .eql 9 (ki 1)),sd 10 (.mov 11)]) z14_2
def z14_0:LC:=.block 0 z14_1
def z14:LC:=.seq (.stm [0,9] [sd 9 (.mov 1)]) z14_0
theorem jdt:jaL Tryz.prog eqs0 29 z14 [] 155=true:=by kernel_rfl
end
end Go.Proofs.YtcfkfgkndncanaaGreatDoor
