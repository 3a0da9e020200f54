/- Texts of this claim, merged by a program of this claim: KRefT. -/
import Derived.Test.YtienkkicehmchaaGreatDoorDl5
namespace Go.Proofs.YtienkkicehmchaaGreatDoor
set_option linter.unusedVariables false
set_option linter.unusedSimpArgs false
section
open Go.RowKit
set_option maxRecDepth 100000
def z121_1:LC:=.seq (.stm [0,1,12] [kM 7 1,sd 8 (.lt 7 (ki 1)),kM 9 8,.g 9 false [kM 10 1,sd 11 (.cmp .gtr 10 (ki 8))] 12 kt 11]) (.cond 12 (.seq (.stm [4] [kM 4 kn]) .ret) .skip)
def z121_10:LC:=.seq (.stm [0,1,5,6,17] [kM 15 6,kM 16 1,sd 17 (.lt 15 16)]) (.cond 17 .skip (.exit 0))
def z121_14:LC:=.seq (.stm [0,1,5,6] [kM 20 5,kM 21 1,sd 22 (.sub 21 (ki 1)),kM 23 6,sd 24 (.sub 22 23),kM 25 0,sd 26 (.ari .rem false 25 (.c (.int .u64 256))),sd 27 (.conv .u8 true 26),sd 28 (.ixS 1 20 24),sn (.store 1 28 27)]) (.stm [0,1,5,6] [kM 29 0,sd 30 (.ari .quo false 29 (.c (.int .u64 256))),kM 0 30])
def z121_12:LC:=.seq (.block 1 z121_14) (.stm [0,1,5,6] [kM 18 6,sd 19 (.add 18 (ki 1)),kM 6 19])
def z121_8:LC:=.loop (.seq z121_10 z121_12)
def z121_5:LC:=.seq (.seq (.stm [0,1,5,6] [kM 6 (ki 0)]) (.block 0 z121_8)) (.seq (.stm [4] [kM 31 5,kM 4 31]) .ret)
def z121_4:LC:=.seq (.stm [0,1,5] [kM 13 1,sd 14 (.mksl (.int .u8) 1 13 13),kM 5 14]) z121_5
def z121_0:LC:=.seq z121_1 z121_4
def z121:LC:=.seq (.stm [0,1] [kM 4 kn]) z121_0
theorem jni:jad Tryz.prog eqs0 153 z121 [.t 4] 32=true:=by kernel_rfl
def z122_3:LC:=.seq (.stm [2] [kM 22 3,kF 23 1 2,kF 24 23 2,kL 25 1 24,sd 26 (.bslice (.int .u8) [25]),sd 27 (.app (.int .u8) 22 26),kM 2 27]) .ret
def z122_2:LC:=.seq (.stm [1,3] [kM 15 3,kF 16 1 2,kF 17 16 1,kL 18 1 17,sd 19 (.conv .u64 false 18),sd 20 (.call 153 [19,(ki 2)]),sd 21 (.app (.int .u8) 15 20),kM 3 21]) z122_3
def z122_1:LC:=.seq (.stm [1,3] [kM 8 3,kF 9 1 2,kF 10 9 0,kL 11 1 10,sd 12 (.conv .u64 false 11),sd 13 (.call 153 [12,(ki 2)]),sd 14 (.app (.int .u8) 8 13),kM 3 14]) z122_2
def z122_0:LC:=.seq (.stm [1,3] [kF 4 1 0,kL 5 1 4,sd 6 (.conv .u64 true 5),sd 7 (.call 153 [6,(ki 4)]),kM 3 7]) z122_1
def z122:LC:=.seq (.stm [1] [sd 1 (.box 0),kM 2 kn]) z122_0
theorem jeY:jad Tryz.prog eqs0 109 z122 [.t 2] 28=true:=by kernel_rfl
def z123_2:LC:=.cond 14 (.stm [2,3,4] [kM 15 2,sd 16 (.add 15 (ki 1)),kM 2 16]) .skip
def z123_1:LC:=.seq (.stm [2,3,4,14] [kF 13 4 5,kL 14 1 13]) z123_2
def z123_6:LC:=.cond 22 (.stm [2,3,4,7] [kM 23 2,sd 24 (.add 23 (ki 2)),kM 2 24]) .skip
def z123_5:LC:=.seq (.stm [2,3,4,7,22] [kM 22 7]) z123_6
def z123_11:LC:=.seq (.stm [3,4,8] [kM 41 8,kF 42 4 7,kL 43 1 42,sd 44 (.len true 43),sd 45 (.conv .u8 true 44),sd 46 (.bslice (.int .u8) [45]),sd 47 (.app (.int .u8) 41 46),kM 8 47]) (.stm [3,4,8] [kM 48 8,kF 49 4 7,kL 50 1 49,sd 51 (.app (.int .u8) 48 50),kM 8 51])
def z123_9:LC:=.seq (.stm [3,4,8,40] [kM 40 7]) (.cond 40 z123_11 .skip)
def z123_19:LC:=.seq (.stm [3,4,8,9,10,11,56] [kM 53 11,kF 54 4 1,kL 55 1 54,sd 56 (.lt 53 55)]) (.cond 56 .skip (.exit 0))
def z123_31:LC:=.seq (.stm [3,4,8,9,10,11,12,99] [kM 96 12,kF 97 4 0,kL 98 1 97,sd 99 (.lt 96 98)]) (.cond 99 .skip (.exit 2))
def z123_34:LC:=.block 3 (.stm [3,4,8,9,10,11,12] [kM 102 9,kF 103 4 2,kL 104 1 103,kM 105 11,kF 106 4 0,kL 107 1 106,sd 108 (.ari .mul false 105 107),kM 109 12,sd 110 (.add 108 109),sd 111 (.ixS 6 104 110),sd 112 (.load true 6 111),sd 113 (.call 109 [112]),sd 114 (.app (.int .u8) 102 113),kM 9 114])
def z123_33:LC:=.seq z123_34 (.stm [3,4,8,9,10,11,12] [kM 100 12,sd 101 (.add 100 (ki 1)),kM 12 101])
def z123_29:LC:=.loop (.seq z123_31 z123_33)
def z123_27:LC:=.seq (.stm [3,4,8,9,10,11,12] [kM 12 (ki 0)]) (.block 2 z123_29)
def z123_26:LC:=.seq (.stm [3,4,8,9,10,11] [kM 91 9,kM 92 11,sd 93 (.conv .u8 true 92),sd 94 (.bslice (.int .u8) [93]),sd 95 (.app (.int .u8) 91 94),kM 9 95]) z123_27
def z123_25:LC:=.seq (.stm [3,4,8,9,10,11] [kM 89 10,sd 90 (.add 89 (ki 1)),kM 10 90]) z123_26
def z123_23:LC:=.seq (.reg [3,4,8,9,10,11,88] [kR 0 59 (.fa 3 2),kR 1 60 (.ld 1 59),kR 2 61 (.mov 11),kR 3 62 (.fa 4 0),kR 4 63 (.ld 1 62),kR 5 64 (.ari .mul false 61 63),kR 6 65 (.mov 11),kR 7 66 (.fa 4 0),kR 8 67 (.ld 1 66),kR 9 68 (.ari .mul false 65 67),kR 10 69 (.fa 4 0),kR 11 70 (.ld 1 69),kR 12 71 (.add 68 70),kR 13 72 (.sl false 6 60 (some 64) (some 71) none),kR 14 73 (.fa 4 2),kR 15 74 (.ld 1 73),kR 16 75 (.mov 11),kR 17 76 (.fa 4 0),kR 18 77 (.ld 1 76),kR 19 78 (.ari .mul false 75 77),kR 20 79 (.mov 11),kR 21 80 (.fa 4 0),kR 22 81 (.ld 1 80),kR 23 82 (.ari .mul false 79 81),kR 24 83 (.fa 4 0),kR 25 84 (.ld 1 83),kR 26 85 (.add 82 84),kR 27 86 (.sl false 6 74 (some 78) (some 85) none),⟨28,some 87,none,.call 83 [72,86],false,true⟩,kR 29 88 (.un .not 87)]) (.cond 88 z123_25 .skip)
def z123_21:LC:=.seq (.block 1 z123_23) (.stm [3,4,8,9,10,11] [kM 57 11,sd 58 (.add 57 (ki 1)),kM 11 58])
def z123_17:LC:=.loop (.seq z123_19 z123_21)
def z123_15:LC:=.seq (.stm [3,4,8,9,10,11] [kM 11 (ki 0)]) (.block 0 z123_17)
def z123_36:LC:=.seq (.stm [6] [kM 120 8,kM 121 9,sd 122 (.app (.int .u8) 120 121),kM 6 122]) .ret
def z123_35:LC:=.seq (.stm [8,9] [kM 115 8,kM 116 10,sd 117 (.conv .u8 true 116),sd 118 (.bslice (.int .u8) [117]),sd 119 (.app (.int .u8) 115 118),kM 8 119]) z123_36
def z123_13:LC:=.seq (.stm [3,4,8,9,10] [kM 10 (ki 0)]) (.seq z123_15 z123_35)
def z123_12:LC:=.seq (.stm [3,4,8,9] [sd 52 (.bslice (.int .u8) []),kM 9 52]) z123_13
def z123_7:LC:=.seq (.stm [3,4,7,8] [kF 25 4 0,kL 26 1 25,sd 27 (.conv .u8 true 26),kF 28 4 1,kL 29 1 28,sd 30 (.conv .u8 true 29),kF 31 4 3,kL 32 1 31,sd 33 (.conv .u8 true 32),kF 34 4 4,kL 35 1 34,sd 36 (.conv .u8 true 35),kM 37 2,sd 38 (.conv .u8 true 37),sd 39 (.bslice (.int .u8) [27,30,33,36,38]),kM 8 39]) (.seq z123_9 z123_12)
def z123_3:LC:=.seq (.stm [2,3,4,7] [kF 17 4 7,kL 18 1 17,kF 19 3 7,kL 20 1 19,sd 21 (.cmp .neq 18 20),kM 7 21]) (.seq z123_5 z123_7)
def z123_0:LC:=.seq z123_1 z123_3
def z123:LC:=.seq (.stm [2,3,4] [sd 3 (.box 0),sd 4 (.box 1),kM 6 kn]) z123_0
theorem jhj:jad Tryz.prog eqs0 61 z123 [.t 6] 123=true:=by kernel_rfl
def z124_2:LC:=.cond 8 (.seq (.stm [2,3] [kM 2 kn,kM 3 (ki 1)]) .ret) .skip
def z124_1:LC:=.seq (.stm [1,8] [sd 6 (.load true 9 1),sd 7 (.call 29 [6]),sd 8 (.un .not 7)]) z124_2
def z124_5:LC:=.seq (.stm [2,3] [sd 17 (.load true 9 4),sd 18 (.load true 9 1),sd 19 (.call 61 [17,18,(ki 4)]),kM 2 19,kM 3 (ki 0)]) .ret
def z124_4:LC:=.seq (.stm [1,4] [kF 10 1 0,kL 11 1 10,kF 12 1 1,kL 13 1 12,sd 14 (.call 23 [11,13]),kM 9 14,sd 15 (.ext 9 0),sd 16 (.ext 9 1),sd 4 (.zero [.int .i64 0,.int .i64 0,.nils,.int .i64 0,.int .i64 0,.bool false,.int .u8 0,.str (bs []),.nils]),sn (.store 9 4 15),kM 5 16]) z124_5
def z124_0:LC:=.seq z124_1 z124_4
def z124:LC:=.seq (.stm [1] [sd 1 (.box 0),kM 2 kn,kM 3 (ki 0)]) z124_0
theorem jhk:jad Tryz.prog eqs0 26 z124 [.t 2,.t 3] 20=true:=by kernel_rfl
def z125_2:LC:=.cond 13 (.seq (.stm [4,5] [kM 4 kn,kM 5 (ki 1)]) .ret) .skip
def z125_1:LC:=.seq (.stm [2,3,13] [sd 6 (.load true 9 2),sd 7 (.call 29 [6]),sd 8 (.un .not 7),kM 9 8,.g 9 false [sd 10 (.load true 9 3),sd 11 (.call 29 [10]),sd 12 (.un .not 11)] 13 kt 12]) z125_2
def z125_7:LC:=.seq (.stm [4,5] [sd 26 (.load true 9 3),sd 27 (.call 26 [26]),sd 28 (.ext 27 0),sd 29 (.ext 27 1),kM 4 28,kM 5 29]) .ret
def z125_5:LC:=.seq (.stm [2,3,25] [kF 14 2 0,kL 15 1 14,kF 16 3 0,kL 17 1 16,sd 18 (.cmp .neq 15 17),kM 19 18,.g 19 false [kF 20 2 1,kL 21 1 20,kF 22 3 1,kL 23 1 22,sd 24 (.cmp .neq 21 23)] 25 kt 24]) (.cond 25 z125_7 .skip)
def z125_8:LC:=.seq (.stm [4,5] [sd 30 (.load true 9 2),sd 31 (.load true 9 3),sd 32 (.call 61 [30,31,(ki 0)]),kM 4 32,kM 5 (ki 0)]) .ret
def z125_0:LC:=.seq z125_1 (.seq z125_5 z125_8)
def z125:LC:=.seq (.stm [2,3] [sd 2 (.box 0),sd 3 (.box 1),kM 4 kn,kM 5 (ki 0)]) z125_0
theorem jhQ:jad Tryz.prog eqs0 58 z125 [.t 4,.t 5] 33=true:=by kernel_rfl
def z126_10:LC:=.seq (.stm [0,3,4,7,8] [kM 10 8,kM 4 10]) (.stm [0,3,7,8] [kM 11 3,kM 12 0,kM 13 4,sd 14 (.ixS 1 12 13),kL 15 1 14,sd 16 (.conv .u64 true 15),sd 17 (.call 110 [16]),sd 18 (.app (.int .u8) 11 17),kM 3 18])
def z126_8:LC:=.seq (.block 1 z126_10) (.stm [0,3,7,8] [sd 19 (.add 8 (ki 1)),kM 8 19])
def z126_5:LC:=.seq (.stm [0,3,7,8,9] [sd 9 (.lt 8 7)]) (.seq (.cond 9 .skip (.exit 0)) z126_8)
def z126_4:LC:=.loop z126_5
def z126_2:LC:=.seq (.stm [0,3,7,8] [kM 6 0,sd 7 (.len false 6),kM 8 (ki 0)]) (.block 0 z126_4)
def z126_0:LC:=.seq (.stm [0,3] [sd 5 (.bslice (.int .u8) []),kM 3 5]) (.seq z126_2 (.seq (.stm [2] [kM 20 3,kM 2 20]) .ret))
def z126:LC:=.seq (.stm [0] [kM 2 kn]) z126_0
theorem jhl:jad Tryz.prog eqs0 62 z126 [.t 2] 21=true:=by kernel_rfl
def z127_7:LC:=.cond 49 (.stm [2,3,5] [kM 50 5,sd 51 (.bslice (.int .u8) [(k8 1)]),sd 52 (.app (.int .u8) 50 51),kM 5 52]) (.stm [2,3,5] [kM 53 5,sd 54 (.bslice (.int .u8) [(k8 0)]),sd 55 (.app (.int .u8) 53 54),kM 5 55])
def z127_5:LC:=.seq (.stm [2,3,5] [kM 40 5,kF 41 3 3,kL 42 1 41,kF 43 3 4,kL 44 1 43,sd 45 (.bslice (.int .i64) [42,44]),sd 46 (.call 62 [45]),sd 47 (.app (.int .u8) 40 46),kM 5 47]) (.seq (.stm [2,3,5,49] [kF 48 3 5,kL 49 1 48]) z127_7)
def z127_4:LC:=.seq (.stm [2,3,5] [kM 37 5,sd 38 (.bslice (.int .u8) [(k8 2)]),sd 39 (.app (.int .u8) 37 38),kM 5 39]) z127_5
def z127_2:LC:=.seq (.stm [2,3,5,36] [kF 18 3 3,kL 19 1 18,kF 20 2 3,kL 21 1 20,sd 22 (.cmp .neq 19 21),kM 23 22,.g 23 false [kF 24 3 4,kL 25 1 24,kF 26 2 4,kL 27 1 26,sd 28 (.cmp .neq 25 27)] 29 kt 28,kM 30 29,.g 30 false [kF 31 3 5,kL 32 1 31,kF 33 2 5,kL 34 1 33,sd 35 (.cmpB true 32 34)] 36 kt 35]) (.cond 36 z127_4 .skip)
def z127_12:LC:=.seq (.stm [2,3,5,6] [kM 68 5,sd 69 (.bslice (.int .u8) [(k8 3)]),sd 70 (.app (.int .u8) 68 69),kM 5 70]) (.stm [2,3,5] [kM 71 5,kM 72 6,sd 73 (.app (.int .u8) 71 72),kM 5 73])
def z127_11:LC:=.seq (.stm [2,3,5,6] [kF 62 3 7,kL 63 1 62,sd 64 (.s2b 63),sd 65 (.call 111 [64]),kM 61 65,sd 66 (.ext 61 0),sd 67 (.ext 61 1),kM 6 66,kM 7 67]) z127_12
def z127_9:LC:=.seq (.stm [2,3,5,60] [kF 56 3 7,kL 57 1 56,kF 58 2 7,kL 59 1 58,sd 60 (.cmp .neq 57 59)]) (.cond 60 z127_11 .skip)
def z127_15:LC:=.cond 78 (.stm [2,3,5] [kM 79 5,kF 80 3 6,kL 81 1 80,sd 82 (.bslice (.int .u8) [(k8 4),81]),sd 83 (.app (.int .u8) 79 82),kM 5 83]) .skip
def z127_14:LC:=.seq (.stm [2,3,5,78] [kF 74 3 6,kL 75 1 74,kF 76 2 6,kL 77 1 76,sd 78 (.cmp .neq 75 77)]) z127_15
def z127_29:LC:=.cond 138 (.stm [2,3,5,8,87,88] [kM 139 8,kM 140 9,sd 141 (.bslice (.int .i64) [140]),sd 142 (.app (.int .i64) 139 141),kM 8 142]) .skip
def z127_28:LC:=.seq (.reg [2,3,5,8,9,87,88,138] [kR 0 124 (.fa 2 2),kR 1 125 (.ld 1 124),kR 2 126 (.mov 9),kR 3 127 (.ixS 6 125 126),kR 4 128 (.load true 6 127),kR 5 129 (.fa 3 2),kR 6 130 (.ld 1 129),kR 7 131 (.mov 9),kR 8 132 (.ixS 6 130 131),kR 9 133 (.load true 6 132),kR 10 134 (.eqA [.i32,.u8,.u32,.u32,.u8,.u16] true 128 133),kR 11 135 (.mov 134),⟨12,some 136,some (135,true),.mov 10,false,false⟩,⟨13,some 137,some (135,true),.un .not 136,false,false⟩,kR 14 138 (.pick 135 137 kf)]) z127_29
def z127_27:LC:=.seq (.reg [2,3,5,8,9,10,87,88] [kR 0 91 (.mov 9),kR 1 92 (.cmp .gtr 91 (ki 0)),kR 2 93 (.mov 92),⟨3,some 94,some (93,true),.faddr 2 2,false,false⟩,⟨4,some 95,some (93,true),.load false 1 94,false,false⟩,⟨5,some 96,some (93,true),.mov 9,false,false⟩,⟨6,some 97,some (93,true),.sub 96 (ki 1),false,false⟩,⟨7,some 98,some (93,true),.ixS 6 95 97,false,false⟩,⟨8,some 99,some (93,true),.load true 6 98,false,false⟩,⟨9,some 100,some (93,true),.faddr 3 2,false,false⟩,⟨10,some 101,some (93,true),.load false 1 100,false,false⟩,⟨11,some 102,some (93,true),.mov 9,false,false⟩,⟨12,some 103,some (93,true),.sub 102 (ki 1),false,false⟩,⟨13,some 104,some (93,true),.ixS 6 101 103,false,false⟩,⟨14,some 105,some (93,true),.load true 6 104,false,false⟩,⟨15,some 106,some (93,true),.eqA [.i32,.u8,.u32,.u32,.u8,.u16] true 99 105,false,false⟩,kR 16 107 (.pick 93 106 kf),kR 17 108 (.mov 107),⟨18,some 109,some (108,true),.faddr 3 2,false,false⟩,⟨19,some 110,some (108,true),.load false 1 109,false,false⟩,⟨20,some 111,some (108,true),.mov 9,false,false⟩,⟨21,some 112,some (108,true),.sub 111 (ki 1),false,false⟩,⟨22,some 113,some (108,true),.ixS 6 110 112,false,false⟩,⟨23,some 114,some (108,true),.faddr 113 2,false,false⟩,⟨24,some 115,some (108,true),.load true 4 114,false,false⟩,⟨25,some 116,some (108,true),.faddr 3 2,false,false⟩,⟨26,some 117,some (108,true),.load false 1 116,false,false⟩,⟨27,some 118,some (108,true),.mov 9,false,false⟩,⟨28,some 119,some (108,true),.ixS 6 117 118,false,false⟩,⟨29,some 120,some (108,true),.faddr 119 2,false,false⟩,⟨30,some 121,some (108,true),.load true 4 120,false,false⟩,⟨31,some 122,some (108,true),.eqA [.u32,.u32,.u8,.u16] false 115 121,false,false⟩,kR 32 123 (.pick 108 122 kf),kR 33 10 (.mov 123)]) z127_28
def z127_26:LC:=.seq (.stm [2,3,5,8,9,87,88] [kM 90 88,kM 9 90]) z127_27
def z127_24:LC:=.seq (.block 1 z127_26) (.stm [2,3,5,8,87,88] [sd 143 (.add 88 (ki 1)),kM 88 143])
def z127_21:LC:=.seq (.stm [2,3,5,8,87,88,89] [sd 89 (.lt 88 87)]) (.seq (.cond 89 .skip (.exit 0)) z127_24)
def z127_20:LC:=.loop z127_21
def z127_18:LC:=.seq (.stm [2,3,5,8,87,88] [kF 85 3 2,kL 86 1 85,sd 87 (.len false 86),kM 88 (ki 0)]) (.block 0 z127_20)
def z127_31:LC:=.seq (.stm [2,3,5,8,146] [kM 144 8,sd 145 (.len false 144),sd 146 (.eq 145 (ki 0))]) (.cond 146 (.seq (.stm [4] [kM 147 5,kM 4 147]) .ret) .skip)
def z127_53:LC:=.seq (.reg [2,3,5,8,11,13,14,158,159,206] [kR 0 166 (.mov 13),kR 1 167 (.mov 14),kR 2 168 (.add 166 167),kR 3 169 (.fa 3 2),kR 4 170 (.ld 1 169),kR 5 171 (.len false 170),kR 6 172 (.lt 168 171),kR 7 173 (.mov 172),⟨8,some 174,some (173,true),.faddr 2 2,false,false⟩,⟨9,some 175,some (173,true),.load false 1 174,false,false⟩,⟨10,some 176,some (173,true),.mov 13,false,false⟩,⟨11,some 177,some (173,true),.mov 14,false,false⟩,⟨12,some 178,some (173,true),.add 176 177,false,false⟩,⟨13,some 179,some (173,true),.ixS 6 175 178,false,false⟩,⟨14,some 180,some (173,true),.load true 6 179,false,false⟩,⟨15,some 181,some (173,true),.faddr 3 2,false,false⟩,⟨16,some 182,some (173,true),.load false 1 181,false,false⟩,⟨17,some 183,some (173,true),.mov 13,false,false⟩,⟨18,some 184,some (173,true),.mov 14,false,false⟩,⟨19,some 185,some (173,true),.add 183 184,false,false⟩,⟨20,some 186,some (173,true),.ixS 6 182 185,false,false⟩,⟨21,some 187,some (173,true),.load true 6 186,false,false⟩,⟨22,some 188,some (173,true),.eqA [.i32,.u8,.u32,.u32,.u8,.u16] true 180 187,false,false⟩,kR 23 189 (.pick 173 188 kf),kR 24 190 (.mov 189),⟨25,some 191,some (190,true),.faddr 3 2,false,false⟩,⟨26,some 192,some (190,true),.load false 1 191,false,false⟩,⟨27,some 193,some (190,true),.mov 13,false,false⟩,⟨28,some 194,some (190,true),.mov 14,false,false⟩,⟨29,some 195,some (190,true),.add 193 194,false,false⟩,⟨30,some 196,some (190,true),.ixS 6 192 195,false,false⟩,⟨31,some 197,some (190,true),.faddr 196 2,false,false⟩,⟨32,some 198,some (190,true),.load true 4 197,false,false⟩,⟨33,some 199,some (190,true),.faddr 3 2,false,false⟩,⟨34,some 200,some (190,true),.load false 1 199,false,false⟩,⟨35,some 201,some (190,true),.mov 13,false,false⟩,⟨36,some 202,some (190,true),.ixS 6 200 201,false,false⟩,⟨37,some 203,some (190,true),.faddr 202 2,false,false⟩,⟨38,some 204,some (190,true),.load true 4 203,false,false⟩,⟨39,some 205,some (190,true),.eqA [.u32,.u32,.u8,.u16] false 198 204,false,false⟩,kR 40 206 (.pick 190 205 kf)]) (.cond 206 .skip (.exit 4))
def z127_55:LC:=.block 5 (.stm [2,3,5,8,11,13,14,158,159] [kM 207 14,sd 208 (.add 207 (ki 1)),kM 14 208])
def z127_51:LC:=.loop (.seq z127_53 z127_55)
def z127_50:LC:=.block 4 z127_51
def z127_63:LC:=.seq (.stm [2,3,5,8,13,14,16,158,159,234] [kM 232 16,kM 233 14,sd 234 (.lt 232 233)]) (.cond 234 .skip (.exit 6))
def z127_66:LC:=.block 7 (.stm [2,3,5,8,13,14,16,158,159] [kM 237 5,kF 238 3 2,kL 239 1 238,kM 240 13,kM 241 16,sd 242 (.add 240 241),sd 243 (.ixS 6 239 242),kF 244 243 0,kL 245 1 244,sd 246 (.conv .i64 false 245),sd 247 (.bslice (.int .i64) [246]),sd 248 (.call 62 [247]),sd 249 (.app (.int .u8) 237 248),kM 5 249])
def z127_65:LC:=.seq z127_66 (.stm [2,3,5,8,13,14,16,158,159] [kM 235 16,sd 236 (.add 235 (ki 1)),kM 16 236])
def z127_61:LC:=.loop (.seq z127_63 z127_65)
def z127_59:LC:=.seq (.stm [2,3,5,8,13,14,16,158,159] [kM 16 (ki 0)]) (.block 6 z127_61)
def z127_58:LC:=.seq z127_59 (.stm [2,3,5,8,11,158,159] [kM 250 13,kM 251 14,sd 252 (.add 250 251),kM 11 252])
def z127_57:LC:=.seq (.stm [2,3,5,8,13,14,158,159] [kM 215 5,kM 216 13,kM 217 11,sd 218 (.sub 216 217),kM 219 14,kF 220 15 0,kL 221 1 220,sd 222 (.conv .i64 false 221),kF 223 15 1,kL 224 1 223,sd 225 (.conv .i64 false 224),kF 226 15 2,kL 227 1 226,sd 228 (.conv .i64 false 227),sd 229 (.bslice (.int .i64) [218,219,222,225,228]),sd 230 (.call 62 [229]),sd 231 (.app (.int .u8) 215 230),kM 5 231]) z127_58
def z127_56:LC:=.seq (.stm [2,3,5,8,11,13,14,15,158,159] [kF 209 3 2,kL 210 1 209,kM 211 13,sd 212 (.ixS 6 210 211),kF 213 212 2,sd 214 (.load true 4 213),sd 15 (.zero [.int .u32 0,.int .u32 0,.int .u8 0,.int .u16 0]),sn (.store 4 15 214)]) z127_57
def z127_48:LC:=.seq (.stm [2,3,5,8,11,13,14,158,159] [kM 14 (ki 0)]) (.seq z127_50 z127_56)
def z127_47:LC:=.seq (.stm [2,3,5,8,11,13,158,159] [kM 162 8,kM 163 12,sd 164 (.ixS 1 162 163),kL 165 1 164,kM 13 165]) z127_48
def z127_46:LC:=.seq (.stm [2,3,5,8,11,12,158,159] [kM 161 159,kM 12 161]) z127_47
def z127_44:LC:=.seq (.block 3 z127_46) (.stm [2,3,5,8,11,158,159] [sd 253 (.add 159 (ki 1)),kM 159 253])
def z127_41:LC:=.seq (.stm [2,3,5,8,11,158,159,160] [sd 160 (.lt 159 158)]) (.seq (.cond 160 .skip (.exit 2)) z127_44)
def z127_40:LC:=.loop z127_41
def z127_38:LC:=.seq (.stm [2,3,5,8,11,158,159] [kM 157 8,sd 158 (.len false 157),kM 159 (ki 0)]) (.block 2 z127_40)
def z127_36:LC:=.seq (.stm [2,3,5,8,11] [kM 11 (ki 0)]) (.seq z127_38 (.seq (.stm [4] [kM 254 5,kM 4 254]) .ret))
def z127_35:LC:=.seq (.stm [2,3,5,8] [kM 151 5,kM 152 8,sd 153 (.len false 152),sd 154 (.bslice (.int .i64) [153]),sd 155 (.call 62 [154]),sd 156 (.app (.int .u8) 151 155),kM 5 156]) z127_36
def z127_34:LC:=.seq (.stm [2,3,5,8] [kM 148 5,sd 149 (.bslice (.int .u8) [(k8 5)]),sd 150 (.app (.int .u8) 148 149),kM 5 150]) z127_35
def z127_16:LC:=.seq (.stm [2,3,5,8] [sd 84 (.bslice (.int .i64) []),kM 8 84]) (.seq z127_18 (.seq z127_31 z127_34))
def z127_0:LC:=.seq (.stm [2,3,5] [sd 17 (.bslice (.int .u8) []),kM 5 17]) (.seq z127_2 (.seq z127_9 (.seq z127_14 z127_16)))
def z127:LC:=.seq (.stm [2,3] [sd 2 (.box 0),sd 3 (.box 1),kM 4 kn]) z127_0
theorem jhm:jad Tryz.prog eqs0 63 z127 [.t 4] 255=true:=by kernel_rfl
def z128_2:LC:=.cond 8 (.seq (.stm [2,3] [kM 2 kn,kM 3 (ki 1)]) .ret) .skip
def z128_1:LC:=.seq (.stm [1,8] [sd 6 (.load true 9 1),sd 7 (.call 30 [6]),sd 8 (.un .not 7)]) z128_2
def z128_5:LC:=.seq (.reg [2,3] [kR 1 18 (.fa 1 0),kR 2 19 (.ld 1 18),kR 3 20 (.fa 1 1),kR 4 21 (.ld 1 20),kR 8 25 (.load true 9 4),kR 9 26 (.load true 9 1),kR 5 22 (.bslice (.int .i64) [19,21]),⟨6,some 23,none,.call 62 [22],true,false⟩,kR 0 17 (.bslice (.int .u8) [(k8 1)]),⟨7,some 24,none,.app (.int .u8) 17 23,true,true⟩,⟨10,some 27,none,.call 63 [25,26],false,true⟩,⟨11,some 28,none,.app (.int .u8) 24 27,false,true⟩,kR 12 2 (.mov 28),kR 13 3 (.mov (ki 0))]) .ret
def z128_4:LC:=.seq (.stm [1,4] [kF 10 1 0,kL 11 1 10,kF 12 1 1,kL 13 1 12,sd 14 (.call 23 [11,13]),kM 9 14,sd 15 (.ext 9 0),sd 16 (.ext 9 1),sd 4 (.zero [.int .i64 0,.int .i64 0,.nils,.int .i64 0,.int .i64 0,.bool false,.int .u8 0,.str (bs []),.nils]),sn (.store 9 4 15),kM 5 16]) z128_5
def z128_0:LC:=.seq z128_1 z128_4
def z128:LC:=.seq (.stm [1] [sd 1 (.box 0),kM 2 kn,kM 3 (ki 0)]) z128_0
theorem jhn:jad Tryz.prog eqs0 27 z128 [.t 2,.t 3] 29=true:=by kernel_rfl
def z129_2:LC:=.cond 13 (.seq (.stm [4,5] [kM 4 kn,kM 5 (ki 1)]) .ret) .skip
def z129_1:LC:=.seq (.stm [2,3,13] [sd 6 (.load true 9 2),sd 7 (.call 30 [6]),sd 8 (.un .not 7),kM 9 8,.g 9 false [sd 10 (.load true 9 3),sd 11 (.call 30 [10]),sd 12 (.un .not 11)] 13 kt 12]) z129_2
def z129_7:LC:=.seq (.stm [4,5] [sd 26 (.load true 9 3),sd 27 (.call 27 [26]),sd 28 (.ext 27 0),sd 29 (.ext 27 1),kM 4 28,kM 5 29]) .ret
def z129_5:LC:=.seq (.stm [2,3,25] [kF 14 2 0,kL 15 1 14,kF 16 3 0,kL 17 1 16,sd 18 (.cmp .neq 15 17),kM 19 18,.g 19 false [kF 20 2 1,kL 21 1 20,kF 22 3 1,kL 23 1 22,sd 24 (.cmp .neq 21 23)] 25 kt 24]) (.cond 25 z129_7 .skip)
def z129_8:LC:=.seq (.stm [4,5] [sd 30 (.load true 9 2),sd 31 (.load true 9 3),sd 32 (.call 63 [30,31]),kM 4 32,kM 5 (ki 0)]) .ret
def z129_0:LC:=.seq z129_1 (.seq z129_5 z129_8)
def z129:LC:=.seq (.stm [2,3] [sd 2 (.box 0),sd 3 (.box 1),kM 4 kn,kM 5 (ki 0)]) z129_0
theorem jhR:jad Tryz.prog eqs0 59 z129 [.t 4,.t 5] 33=true:=by kernel_rfl
def z130_5:LC:=.seq (.stm [4,5] [sd 9 (.load true 9 3),sd 10 (.call 26 [9]),sd 11 (.ext 10 0),sd 12 (.ext 10 1),kM 4 11,kM 5 12]) .ret
def z130_8:LC:=.seq (.stm [4,5] [sd 15 (.load true 9 3),sd 16 (.call 27 [15]),sd 17 (.ext 16 0),sd 18 (.ext 16 1),kM 4 17,kM 5 18]) .ret
def z130_11:LC:=.seq (.stm [4,5] [sd 21 (.load true 9 3),sd 22 (.call 28 [21]),sd 23 (.ext 22 0),sd 24 (.ext 22 1),kM 4 23,kM 5 24]) .ret
def z130_9:LC:=.seq (.stm [3,19] [sd 20 (.eq 6 (ki 3)),kM 19 20]) (.cond 19 z130_11 .skip)
def z130_6:LC:=.seq (.stm [3,6,13] [sd 14 (.eq 6 (ki 2)),kM 13 14]) (.cond 13 z130_8 z130_9)
def z130_3:LC:=.seq (.stm [3,6,7] [sd 8 (.eq 6 (ki 1)),kM 7 8]) (.cond 7 z130_5 z130_6)
def z130_0:LC:=.seq (.seq (.stm [3,6] [kM 6 0]) (.block 0 z130_3)) (.seq (.stm [4,5] [kM 4 kn,kM 5 (ki 1)]) .ret)
def z130:LC:=.seq (.stm [0,3] [sd 3 (.box 1),kM 4 kn,kM 5 (ki 0)]) z130_0
theorem jho:jad Tryz.prog eqs0 13 z130 [.t 4,.t 5] 25=true:=by kernel_rfl
def z131_5:LC:=.seq (.stm [6,7] [sd 11 (.load true 9 4),sd 12 (.load true 9 5),sd 13 (.call 58 [11,12]),sd 14 (.ext 13 0),sd 15 (.ext 13 1),kM 6 14,kM 7 15]) .ret
def z131_8:LC:=.seq (.stm [6,7] [sd 18 (.load true 9 4),sd 19 (.load true 9 5),sd 20 (.call 59 [18,19]),sd 21 (.ext 20 0),sd 22 (.ext 20 1),kM 6 21,kM 7 22]) .ret
def z131_11:LC:=.seq (.stm [6,7] [sd 25 (.load true 9 4),sd 26 (.load true 9 5),sd 27 (.call 60 [25,26]),sd 28 (.ext 27 0),sd 29 (.ext 27 1),kM 6 28,kM 7 29]) .ret
def z131_9:LC:=.seq (.stm [4,5,23] [sd 24 (.eq 8 (ki 3)),kM 23 24]) (.cond 23 z131_11 .skip)
def z131_6:LC:=.seq (.stm [4,5,8,16] [sd 17 (.eq 8 (ki 2)),kM 16 17]) (.cond 16 z131_8 z131_9)
def z131_3:LC:=.seq (.stm [4,5,8,9] [sd 10 (.eq 8 (ki 1)),kM 9 10]) (.cond 9 z131_5 z131_6)
def z131_0:LC:=.seq (.seq (.stm [4,5,8] [kM 8 0]) (.block 0 z131_3)) (.seq (.stm [6,7] [kM 6 kn,kM 7 (ki 1)]) .ret)
def z131:LC:=.seq (.stm [0,4,5] [sd 4 (.box 1),sd 5 (.box 2),kM 6 kn,kM 7 (ki 0)]) z131_0
theorem jhS:jad Tryz.prog eqs0 25 z131 [.t 6,.t 7] 30=true:=by kernel_rfl
def z132_3:LC:=.cond 20 (.seq (.stm [6,7] [kM 21 9,kM 6 kn,kM 7 21]) .ret) .skip
def z132_2:LC:=.seq (.stm [0,5,8,9,20] [kM 19 9,sd 20 (.cmp .neq 19 (ki 0))]) z132_3
def z132_8:LC:=.cond 32 (.seq (.stm [6,7] [kM 33 10,kM 6 33,kM 7 (ki 0)]) .ret) .skip
def z132_7:LC:=.seq (.stm [8,10,32] [kM 28 10,sd 29 (.len false 28),kM 30 8,sd 31 (.len false 30),sd 32 (.lt 29 31)]) z132_8
def z132_6:LC:=.seq z132_7 (.seq (.stm [6,7] [kM 34 8,kM 6 34,kM 7 (ki 0)]) .ret)
def z132_5:LC:=.seq (.stm [8,10] [kM 23 0,sd 24 (.load true 9 5),sd 25 (.call 13 [23,24]),kM 22 25,sd 26 (.ext 22 0),sd 27 (.ext 22 1),kM 10 26,kM 11 27]) z132_6
def z132_0:LC:=.seq (.stm [0,5,8,9] [kM 13 0,sd 14 (.load true 9 4),sd 15 (.load true 9 5),sd 16 (.call 25 [13,14,15]),kM 12 16,sd 17 (.ext 12 0),sd 18 (.ext 12 1),kM 8 17,kM 9 18]) (.seq z132_2 z132_5)
def z132:LC:=.seq (.stm [0,4,5] [sd 4 (.box 1),sd 5 (.box 2),kM 6 kn,kM 7 (ki 0)]) z132_0
theorem jkS:jad Tryz.prog eqs0 11 z132 [.t 6,.t 7] 35=true:=by kernel_rfl
def z133_2:LC:=.cond 20 (.seq (.stm [6] [sd 21 (.call 9 []),kM 6 21]) .ret) .skip
def z133_1:LC:=.seq (.stm [0,4,5,20] [sd 15 (.load true 9 4),sd 16 (.call 8 [15]),kM 17 16,.g 17 false [sd 18 (.load true 9 5),sd 19 (.call 8 [18])] 20 kt 19]) z133_2
def z133_8:LC:=.seq (.reg [6] [⟨0,some 48,none,.call 9 [],false,true⟩,kR 1 49 (.mov 48),⟨2,some 50,some (49,true),.mov 8,false,false⟩,⟨3,some 51,some (49,true),.mov 10,false,false⟩,⟨4,some 52,some (49,true),.eq 50 51,false,false⟩,kR 5 53 (.pick 49 52 kf),kR 6 54 (.mov 53),⟨7,some 55,some (54,true),.mov 7,false,false⟩,⟨8,some 56,some (54,true),.mov 9,false,false⟩,⟨9,some 57,some (54,true),.call 14 [55,56],false,true⟩,kR 10 58 (.pick 54 57 kf),kR 11 59 (.mov 58),⟨12,some 60,some (59,true),.mov 12,false,false⟩,⟨13,some 61,some (59,true),.mov 14,false,false⟩,⟨14,some 62,some (59,true),.eq 60 61,false,false⟩,kR 15 63 (.pick 59 62 kf),kR 16 64 (.mov 63),⟨17,some 65,some (64,true),.mov 11,false,false⟩,⟨18,some 66,some (64,true),.mov 13,false,false⟩,⟨19,some 67,some (64,true),.call 14 [65,66],false,true⟩,kR 20 68 (.pick 64 67 kf),kR 21 69 (.mov 68),⟨22,some 70,some (69,true),.mov 0,false,false⟩,⟨23,some 71,some (69,true),.load true 9 4,false,false⟩,⟨25,some 73,some (69,true),.mov 0,false,false⟩,⟨26,some 74,some (69,true),.load true 9 4,false,false⟩,⟨24,some 72,some (69,true),.call 15 [70,71],true,true⟩,⟨27,some 75,some (69,true),.call 16 [73,74],false,true⟩,⟨28,some 76,some (69,true),.cmpB false 72 75,false,false⟩,kR 29 77 (.pick 69 76 kf),kR 30 6 (.mov 77)]) .ret
def z133_7:LC:=.seq (.stm [0,4,7,8,9,10,11,12,13,14] [kM 43 0,sd 44 (.load true 9 5),sd 45 (.call 13 [43,44]),kM 42 45,sd 46 (.ext 42 0),sd 47 (.ext 42 1),kM 13 46,kM 14 47]) z133_8
def z133_6:LC:=.seq (.stm [0,4,5,7,8,9,10,11,12] [kM 37 0,sd 38 (.load true 9 5),sd 39 (.call 12 [37,38]),kM 36 39,sd 40 (.ext 36 0),sd 41 (.ext 36 1),kM 11 40,kM 12 41]) z133_7
def z133_5:LC:=.seq (.stm [0,4,5,7,8,9,10] [kM 30 0,sd 31 (.load true 9 4),sd 32 (.load true 9 5),sd 33 (.call 11 [30,31,32]),kM 29 33,sd 34 (.ext 29 0),sd 35 (.ext 29 1),kM 9 34,kM 10 35]) z133_6
def z133_4:LC:=.seq (.stm [0,4,5,7,8] [kM 23 0,sd 24 (.load true 9 4),sd 25 (.load true 9 5),sd 26 (.call 10 [23,24,25]),kM 22 26,sd 27 (.ext 22 0),sd 28 (.ext 22 1),kM 7 27,kM 8 28]) z133_5
def z133_0:LC:=.seq z133_1 z133_4
def z133:LC:=.seq (.stm [0,4,5] [sd 4 (.box 1),sd 5 (.box 2),kM 6 kf]) z133_0
theorem jjQ:jad Tryz.prog eqs0 3 z133 [.t 6] 78=true:=by kernel_rfl
end
end Go.Proofs.YtienkkicehmchaaGreatDoor
