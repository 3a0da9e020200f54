/- Texts of this claim, merged by a program of this claim: KRunsL. -/
import Derived.Test.YtienkkicehmchaaGreatDoorDl5
namespace Go.Proofs.YtienkkicehmchaaGreatDoor
set_option linter.unusedVariables false
set_option linter.unusedSimpArgs false
section
open Go.RowKit
set_option maxRecDepth 100000
def z103_10:LC:=.seq (.stm [5,7,10,11,12] [sd 14 (.ixS 1 10 12),kL 15 1 14,kM 7 15]) (.stm [5,10,11,12] [kM 16 5,kM 17 7,sd 18 (.conv .u64 true 17),sd 19 (.call 168 [18]),sd 20 (.app (.int .u8) 16 19),kM 5 20])
def z103_8:LC:=.seq (.block 1 z103_10) (.stm [5,10,11,12] [sd 21 (.add 12 (ki 1)),kM 12 21])
def z103_5:LC:=.seq (.stm [5,10,11,12,13] [sd 13 (.lt 12 11)]) (.seq (.cond 13 .skip (.exit 0)) z103_8)
def z103_4:LC:=.loop z103_5
def z103_2:LC:=.seq (.stm [5,10,11,12] [kM 10 1,sd 11 (.len false 10),kM 12 (ki 0)]) (.block 0 z103_4)
def z103_0:LC:=.seq (.stm [1,5] [kM 8 0,sd 9 (.bslice (.int .u8) [8]),kM 5 9]) (.seq z103_2 (.seq (.stm [4] [kM 22 5,kM 4 22]) .ret))
def z103:LC:=.seq (.stm [0,1] [kM 4 kn]) z103_0
theorem jhf:jad Tryz.prog eqs0 145 z103 [.t 4] 23=true:=by kernel_rfl
def z104_7:LC:=.seq (.stm [0,1,6,7,8,9,19] [kM 16 9,kM 17 1,sd 18 (.len false 17),sd 19 (.lt 16 18)]) (.cond 19 .skip (.exit 0))
def z104_13:LC:=.seq (.stm [0,1,6,7,8,9] [kM 29 9,sd 30 (.add 29 (ki 1)),kM 9 30]) (.exit 1)
def z104_11:LC:=.seq (.reg [0,1,6,7,8,9,28] [kR 0 20 (.mov 0),kR 1 21 (.mov 9),kR 2 22 (.ixS 6 20 21),kR 3 23 (.load true 6 22),kR 4 24 (.mov 1),kR 5 25 (.mov 9),kR 6 26 (.ixS 6 24 25),kR 7 27 (.load true 6 26),kR 8 28 (.eqA [.i32,.u8,.u32,.u32,.u8,.u16] false 23 27)]) (.cond 28 z104_13 .skip)
def z104_19:LC:=.seq (.reg [0,1,6,7,8,9,10,60] [kR 0 33 (.mov 10),kR 1 34 (.mov 1),kR 2 35 (.len false 34),kR 3 36 (.lt 33 35),kR 4 37 (.mov 36),⟨5,some 38,some (37,true),.mov 0,false,false⟩,⟨6,some 39,some (37,true),.mov 10,false,false⟩,⟨7,some 40,some (37,true),.ixS 6 38 39,false,false⟩,⟨8,some 41,some (37,true),.load true 6 40,false,false⟩,⟨9,some 42,some (37,true),.mov 1,false,false⟩,⟨10,some 43,some (37,true),.mov 10,false,false⟩,⟨11,some 44,some (37,true),.ixS 6 42 43,false,false⟩,⟨12,some 45,some (37,true),.load true 6 44,false,false⟩,⟨13,some 46,some (37,true),.eqA [.i32,.u8,.u32,.u32,.u8,.u16] true 41 45,false,false⟩,kR 14 47 (.pick 37 46 kf),kR 15 48 (.mov 47),⟨16,some 49,some (48,true),.mov 1,false,false⟩,⟨17,some 50,some (48,true),.mov 10,false,false⟩,⟨18,some 51,some (48,true),.ixS 6 49 50,false,false⟩,⟨19,some 52,some (48,true),.faddr 51 2,false,false⟩,⟨20,some 53,some (48,true),.load true 4 52,false,false⟩,⟨21,some 54,some (48,true),.mov 1,false,false⟩,⟨22,some 55,some (48,true),.mov 9,false,false⟩,⟨23,some 56,some (48,true),.ixS 6 54 55,false,false⟩,⟨24,some 57,some (48,true),.faddr 56 2,false,false⟩,⟨25,some 58,some (48,true),.load true 4 57,false,false⟩,⟨26,some 59,some (48,true),.eqA [.u32,.u32,.u8,.u16] false 53 58,false,false⟩,kR 27 60 (.pick 48 59 kf)]) (.cond 60 .skip (.exit 2))
def z104_21:LC:=.block 3 (.stm [0,1,6,7,8,9,10] [kM 61 10,sd 62 (.add 61 (ki 1)),kM 10 62])
def z104_17:LC:=.loop (.seq z104_19 z104_21)
def z104_16:LC:=.block 2 z104_17
def z104_32:LC:=.seq (.stm [0,1,6,7,9,10,13,83,84,85] [sd 87 (.ixS 1 83 85),kL 88 1 87,kM 13 88]) (.stm [0,1,6,7,9,10,83,84,85] [kM 89 6,kM 90 13,sd 91 (.conv .u64 true 90),sd 92 (.call 168 [91]),sd 93 (.app (.int .u8) 89 92),kM 6 93])
def z104_30:LC:=.seq (.block 5 z104_32) (.stm [0,1,6,7,9,10,83,84,85] [sd 94 (.add 85 (ki 1)),kM 85 94])
def z104_27:LC:=.seq (.stm [0,1,6,7,9,10,83,84,85,86] [sd 86 (.lt 85 84)]) (.seq (.cond 86 .skip (.exit 4)) z104_30)
def z104_26:LC:=.loop z104_27
def z104_24:LC:=.seq (.stm [0,1,6,7,9,10,83,84,85] [kM 68 9,kM 69 8,sd 70 (.sub 68 69),kM 71 10,kM 72 9,sd 73 (.sub 71 72),kF 74 11 0,kL 75 1 74,sd 76 (.conv .i64 false 75),kF 77 11 1,kL 78 1 77,sd 79 (.conv .i64 false 78),kF 80 11 2,kL 81 1 80,sd 82 (.conv .i64 false 81),sd 83 (.bslice (.int .i64) [70,73,76,79,82]),sd 84 (.len false 83),kM 85 (ki 0)]) (.block 4 z104_26)
def z104_42:LC:=.seq (.stm [0,1,6,7,10,15,98,99,100] [sd 102 (.ixS 6 98 100),sd 103 (.load true 6 102),sd 15 (.zero [.int .i32 0,.int .u8 0,.int .u32 0,.int .u32 0,.int .u8 0,.int .u16 0]),sn (.store 6 15 103)]) (.stm [0,1,6,7,10,98,99,100] [kM 104 6,kF 105 15 0,kL 106 1 105,sd 107 (.conv .u64 true 106),sd 108 (.call 168 [107]),sd 109 (.app (.int .u8) 104 108),kM 6 109])
def z104_40:LC:=.seq (.block 7 z104_42) (.stm [0,1,6,7,10,98,99,100] [sd 110 (.add 100 (ki 1)),kM 100 110])
def z104_37:LC:=.seq (.stm [0,1,6,7,10,98,99,100,101] [sd 101 (.lt 100 99)]) (.seq (.cond 101 .skip (.exit 6)) z104_40)
def z104_36:LC:=.loop z104_37
def z104_34:LC:=.seq (.stm [0,1,6,7,10,98,99,100] [kM 95 1,kM 96 9,kM 97 10,sd 98 (.sl false 6 95 (some 96) (some 97) none),sd 99 (.len false 98),kM 100 (ki 0)]) (.block 6 z104_36)
def z104_33:LC:=.seq z104_34 (.stm [0,1,6,7,8,9] [kM 111 7,sd 112 (.add 111 (ki 1)),kM 113 10,kM 114 10,kM 7 112,kM 8 113,kM 9 114])
def z104_22:LC:=.seq (.stm [0,1,6,7,8,9,10,11] [kM 63 1,kM 64 9,sd 65 (.ixS 6 63 64),kF 66 65 2,sd 67 (.load true 4 66),sd 11 (.zero [.int .u32 0,.int .u32 0,.int .u8 0,.int .u16 0]),sn (.store 4 11 67)]) (.seq z104_24 z104_33)
def z104_14:LC:=.seq (.stm [0,1,6,7,8,9,10] [kM 31 9,sd 32 (.add 31 (ki 1)),kM 10 32]) (.seq z104_16 z104_22)
def z104_5:LC:=.loop (.seq z104_7 (.block 1 (.seq z104_11 z104_14)))
def z104_43:LC:=.seq (.stm [4,5] [kM 115 7,kM 116 6,kM 4 115,kM 5 116]) .ret
def z104_2:LC:=.seq (.seq (.stm [0,1,6,7,8,9] [kM 9 (ki 0)]) (.block 0 z104_5)) z104_43
def z104_0:LC:=.seq (.stm [0,1,6] [kM 6 kn]) (.seq (.stm [0,1,6,7,8] [kM 7 (ki 0),kM 8 (ki 0)]) z104_2)
def z104:LC:=.seq (.stm [0,1] [kM 4 (ki 0),kM 5 kn]) z104_0
theorem jft:jad Tryz.prog eqs0 167 z104 [.t 4,.t 5] 117=true:=by kernel_rfl
def z105_6:LC:=.seq (.stm [2,3,5,6,31] [kF 30 3 5,kL 31 1 30]) (.cond 31 (.stm [2,3,5,6] [kM 6 (ki 1)]) .skip)
def z105_5:LC:=.seq z105_6 (.stm [2,3,5] [kM 32 5,kF 33 3 3,kL 34 1 33,kF 35 3 4,kL 36 1 35,kM 37 6,sd 38 (.bslice (.int .i64) [34,36,37]),sd 39 (.call 145 [(k8 2),38]),sd 40 (.app (.int .u8) 32 39),kM 5 40])
def z105_2:LC:=.seq (.stm [2,3,5,29] [kF 11 3 3,kL 12 1 11,kF 13 2 3,kL 14 1 13,sd 15 (.cmp .neq 12 14),kM 16 15,.g 16 false [kF 17 3 4,kL 18 1 17,kF 19 2 4,kL 20 1 19,sd 21 (.cmp .neq 18 20)] 22 kt 21,kM 23 22,.g 23 false [kF 24 3 5,kL 25 1 24,kF 26 2 5,kL 27 1 26,sd 28 (.cmpB true 25 27)] 29 kt 28]) (.cond 29 (.seq (.stm [2,3,5,6] [kM 6 (ki 0)]) z105_5) .skip)
def z105_11:LC:=.seq (.stm [2,3,5,7] [kF 47 3 7,kL 48 1 47,sd 49 (.s2b 48),sd 50 (.call 166 [49]),kM 46 50,sd 51 (.ext 46 0),sd 52 (.ext 46 1),kM 7 51,kM 8 52]) (.stm [2,3,5] [kM 53 5,sd 54 (.bslice (.int .u8) [(k8 3)]),sd 55 (.app (.int .u8) 53 54),kM 56 7,sd 57 (.app (.int .u8) 55 56),kM 5 57])
def z105_9:LC:=.seq (.stm [2,3,5,45] [kF 41 3 7,kL 42 1 41,kF 43 2 7,kL 44 1 43,sd 45 (.cmp .neq 42 44)]) (.cond 45 z105_11 .skip)
def z105_14:LC:=.cond 62 (.stm [2,3,5] [kM 63 5,kF 64 3 6,kL 65 1 64,sd 66 (.conv .i64 false 65),sd 67 (.bslice (.int .i64) [66]),sd 68 (.call 145 [(k8 4),67]),sd 69 (.app (.int .u8) 63 68),kM 5 69]) .skip
def z105_13:LC:=.seq (.stm [2,3,5,62] [kF 58 3 6,kL 59 1 58,kF 60 2 6,kL 61 1 60,sd 62 (.cmp .neq 59 61)]) z105_14
def z105_18:LC:=.cond 79 (.stm [5] [kM 80 5,kM 81 9,sd 82 (.bslice (.int .i64) [81]),sd 83 (.call 145 [(k8 5),82]),sd 84 (.app (.int .u8) 80 83),kM 85 10,sd 86 (.app (.int .u8) 84 85),kM 5 86]) .skip
def z105_17:LC:=.seq (.stm [5,9,10,79] [kM 78 9,sd 79 (.cmp .gtr 78 (ki 0))]) z105_18
def z105_15:LC:=.seq (.stm [5,9,10] [kF 71 2 2,kL 72 1 71,kF 73 3 2,kL 74 1 73,sd 75 (.call 167 [72,74]),kM 70 75,sd 76 (.ext 70 0),sd 77 (.ext 70 1),kM 9 76,kM 10 77]) (.seq z105_17 (.seq (.stm [4] [kM 87 5,kM 4 87]) .ret))
def z105_0:LC:=.seq (.stm [2,3,5] [kM 5 kn]) (.seq z105_2 (.seq z105_9 (.seq z105_13 z105_15)))
def z105:LC:=.seq (.stm [2,3] [sd 2 (.box 0),sd 3 (.box 1),kM 4 kn]) z105_0
theorem jhg:jad Tryz.prog eqs0 144 z105 [.t 4] 88=true:=by kernel_rfl
def z106_7:LC:=.seq (.stm [4,5] [sd 28 (.load true 9 3),sd 29 (.call 104 [28]),sd 30 (.ext 29 0),sd 31 (.ext 29 1),kM 4 30,kM 5 31]) .ret
def z106_5:LC:=.seq (.stm [2,3,15] [kF 16 2 0,kL 17 1 16,kF 18 3 0,kL 19 1 18,sd 20 (.cmp .neq 17 19),kM 21 20,.g 21 false [kF 22 2 1,kL 23 1 22,kF 24 3 1,kL 25 1 24,sd 26 (.cmp .neq 23 25)] 27 kt 26,kM 15 27]) (.cond 15 z106_7 .skip)
def z106_3:LC:=.cond 6 (.seq (.stm [4,5] [kM 4 kn,kM 5 (ki 1)]) .ret) z106_5
def z106_2:LC:=.seq (.stm [2,3,6] [sd 7 (.load true 9 2),sd 8 (.call 102 [7]),sd 9 (.un .not 8),kM 10 9,.g 10 false [sd 11 (.load true 9 3),sd 12 (.call 102 [11]),sd 13 (.un .not 12)] 14 kt 13,kM 6 14]) z106_3
def z106_8:LC:=.seq (.stm [4,5] [sd 32 (.load true 9 2),sd 33 (.load true 9 3),sd 34 (.call 144 [32,33]),kM 4 34,kM 5 (ki 0)]) .ret
def z106_0:LC:=.seq (.block 0 z106_2) z106_8
def z106:LC:=.seq (.stm [2,3] [sd 2 (.box 0),sd 3 (.box 1),kM 4 kn,kM 5 (ki 0)]) z106_0
theorem jgH:jad Tryz.prog eqs0 103 z106 [.t 4,.t 5] 35=true:=by kernel_rfl
def z107_2:LC:=.cond 8 (.seq (.stm [2,3] [kM 2 kn,kM 3 (ki 1)]) .ret) .skip
def z107_1:LC:=.seq (.stm [1,8] [sd 6 (.load true 9 1),sd 7 (.call 102 [6]),sd 8 (.un .not 7)]) z107_2
def z107_5:LC:=.seq (.reg [2,3] [kR 0 17 (.fa 1 0),kR 1 18 (.ld 1 17),kR 2 19 (.fa 1 1),kR 3 20 (.ld 1 19),kR 6 23 (.load true 9 4),kR 7 24 (.load true 9 1),kR 4 21 (.bslice (.int .i64) [18,20]),⟨5,some 22,none,.call 145 [(k8 1),21],true,true⟩,⟨8,some 25,none,.call 144 [23,24],false,true⟩,⟨9,some 26,none,.app (.int .u8) 22 25,false,true⟩,kR 10 2 (.mov 26),kR 11 3 (.mov (ki 0))]) .ret
def z107_4:LC:=.seq (.stm [1,4] [kF 10 1 0,kL 11 1 10,kF 12 1 1,kL 13 1 12,sd 14 (.call 136 [11,13]),kM 9 14,sd 15 (.ext 9 0),sd 16 (.ext 9 1),sd 4 (.zero [.int .i64 0,.int .i64 0,.nils,.int .i64 0,.int .i64 0,.bool false,.int .u8 0,.str (bs []),.nils]),sn (.store 9 4 15),kM 5 16]) z107_5
def z107_0:LC:=.seq z107_1 z107_4
def z107:LC:=.seq (.stm [1] [sd 1 (.box 0),kM 2 kn,kM 3 (ki 0)]) z107_0
theorem jfX:jad Tryz.prog eqs0 104 z107 [.t 2,.t 3] 27=true:=by kernel_rfl
end
end Go.Proofs.YtienkkicehmchaaGreatDoor
