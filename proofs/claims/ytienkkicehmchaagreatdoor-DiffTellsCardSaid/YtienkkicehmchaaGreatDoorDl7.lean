/- Texts of this claim, merged by a program of this claim: KUtf, KCell, KGrid, KLinks. -/
import Derived.Test.YtienkkicehmchaaGreatDoorDl5
namespace Go.Proofs.YtienkkicehmchaaGreatDoor
set_option linter.unusedVariables false
set_option linter.unusedSimpArgs false
section
open Go.RowKit
set_option maxRecDepth 100000
def z0_0:LC:=.seq (.stm [2] [kM 3 0,sd 4 (.cmp .geq 3 (.c (.int .i32 0))),kM 5 4,.g 5 true [kM 6 0,sd 7 (.cmp .leq 6 (.c (.int .i32 55295)))] 8 7 kf,kM 9 8,.g 9 false [kM 10 0,sd 11 (.cmp .geq 10 (.c (.int .i32 57344))),kM 12 11,.g 12 true [kM 13 0,sd 14 (.cmp .leq 13 (.c (.int .i32 1114111)))] 15 14 kf] 16 kt 15,kM 2 16]) .ret
def z0:LC:=.seq (.stm [0] [kM 2 kf]) z0_0
theorem jgf:jad Tryz.prog eqs0 90 z0 [.t 2] 17=true:=by kernel_rfl
def z1_0:LC:=.seq (.stm [6] [kM 7 1,kM 8 0,sd 9 (.cmp .leq 7 8),kM 10 9,.g 10 true [kM 11 0,kM 12 2,sd 13 (.cmp .leq 11 12)] 14 13 kf,kM 6 14]) .ret
def z1:LC:=.seq (.stm [0,1,2] [kM 6 kf]) z1_0
theorem joY:jad Tryz.prog eqs0 91 z1 [.t 6] 15=true:=by kernel_rfl
def z2_1:LC:=.seq (.stm [0,25] [kM 3 0,sd 4 (.call 90 [3]),sd 5 (.un .not 4),kM 6 5,.g 6 false [kM 7 0,sd 8 (.call 91 [7,(.c (.int .i32 0)),(.c (.int .i32 31))])] 9 kt 8,kM 10 9,.g 10 false [kM 11 0,sd 12 (.call 91 [11,(.c (.int .i32 127)),(.c (.int .i32 159))])] 13 kt 12,kM 14 13,.g 14 false [kM 15 0,sd 16 (.call 91 [15,(.c (.int .i32 768)),(.c (.int .i32 879))])] 17 kt 16,kM 18 17,.g 18 false [kM 19 0,sd 20 (.call 91 [19,(.c (.int .i32 8203)),(.c (.int .i32 8207))])] 21 kt 20,kM 22 21,.g 22 false [kM 23 0,sd 24 (.call 91 [23,(.c (.int .i32 65024)),(.c (.int .i32 65039))])] 25 kt 24]) (.cond 25 (.seq (.stm [2] [kM 2 (ki 0)]) .ret) .skip)
def z2_5:LC:=.seq (.stm [63] [kM 26 0,sd 27 (.call 91 [26,(.c (.int .i32 4352)),(.c (.int .i32 4447))]),kM 28 27,.g 28 false [kM 29 0,sd 30 (.call 91 [29,(.c (.int .i32 11904)),(.c (.int .i32 12350))])] 31 kt 30,kM 32 31,.g 32 false [kM 33 0,sd 34 (.call 91 [33,(.c (.int .i32 12353)),(.c (.int .i32 42191))])] 35 kt 34,kM 36 35,.g 36 false [kM 37 0,sd 38 (.call 91 [37,(.c (.int .i32 44032)),(.c (.int .i32 55203))])] 39 kt 38,kM 40 39,.g 40 false [kM 41 0,sd 42 (.call 91 [41,(.c (.int .i32 63744)),(.c (.int .i32 64255))])] 43 kt 42,kM 44 43,.g 44 false [kM 45 0,sd 46 (.call 91 [45,(.c (.int .i32 65072)),(.c (.int .i32 65135))])] 47 kt 46,kM 48 47,.g 48 false [kM 49 0,sd 50 (.call 91 [49,(.c (.int .i32 65280)),(.c (.int .i32 65376))])] 51 kt 50,kM 52 51,.g 52 false [kM 53 0,sd 54 (.call 91 [53,(.c (.int .i32 65504)),(.c (.int .i32 65510))])] 55 kt 54,kM 56 55,.g 56 false [kM 57 0,sd 58 (.call 91 [57,(.c (.int .i32 127744)),(.c (.int .i32 128591))])] 59 kt 58,kM 60 59,.g 60 false [kM 61 0,sd 62 (.call 91 [61,(.c (.int .i32 131072)),(.c (.int .i32 262141))])] 63 kt 62]) (.cond 63 (.seq (.stm [2] [kM 2 (ki 2)]) .ret) .skip)
def z2_0:LC:=.seq z2_1 (.seq z2_5 (.seq (.stm [2] [kM 2 (ki 1)]) .ret))
def z2:LC:=.seq (.stm [0] [kM 2 (ki 0)]) z2_0
theorem jfD:jad Tryz.prog eqs0 40 z2 [.t 2] 64=true:=by kernel_rfl
def z3_2:LC:=.cond 6 (.stm [0] [sd 0 (.mov (.c (.int .i32 65533)))]) .skip
def z3_1:LC:=.seq (.stm [0,6] [kM 4 0,sd 5 (.call 90 [4]),sd 6 (.un .not 5)]) z3_2
def z3_7:LC:=.seq (.stm [2] [kM 11 3,sd 12 (.conv .u8 true 11),sd 13 (.bslice (.int .u8) [12]),kM 2 13]) .ret
def z3_5:LC:=.seq (.stm [3,10] [kM 9 3,sd 10 (.lt 9 (ki 128))]) (.cond 10 z3_7 .skip)
def z3_11:LC:=.seq (.stm [2] [kM 16 3,sd 17 (.ari .quo false 16 (ki 64)),sd 18 (.add (ki 192) 17),sd 19 (.conv .u8 true 18),kM 20 3,sd 21 (.ari .rem false 20 (ki 64)),sd 22 (.add (ki 128) 21),sd 23 (.conv .u8 true 22),sd 24 (.bslice (.int .u8) [19,23]),kM 2 24]) .ret
def z3_9:LC:=.seq (.stm [3,15] [kM 14 3,sd 15 (.lt 14 (ki 2048))]) (.cond 15 z3_11 .skip)
def z3_15:LC:=.seq (.stm [2] [kM 27 3,sd 28 (.ari .quo false 27 (ki 4096)),sd 29 (.add (ki 224) 28),sd 30 (.conv .u8 true 29),kM 31 3,sd 32 (.ari .quo false 31 (ki 64)),sd 33 (.ari .rem false 32 (ki 64)),sd 34 (.add (ki 128) 33),sd 35 (.conv .u8 true 34),kM 36 3,sd 37 (.ari .rem false 36 (ki 64)),sd 38 (.add (ki 128) 37),sd 39 (.conv .u8 true 38),sd 40 (.bslice (.int .u8) [30,35,39]),kM 2 40]) .ret
def z3_13:LC:=.seq (.stm [3,26] [kM 25 3,sd 26 (.lt 25 (ki 65536))]) (.cond 26 z3_15 .skip)
def z3_16:LC:=.seq (.stm [2] [kM 41 3,sd 42 (.ari .quo false 41 (ki 262144)),sd 43 (.add (ki 240) 42),sd 44 (.conv .u8 true 43),kM 45 3,sd 46 (.ari .quo false 45 (ki 4096)),sd 47 (.ari .rem false 46 (ki 64)),sd 48 (.add (ki 128) 47),sd 49 (.conv .u8 true 48),kM 50 3,sd 51 (.ari .quo false 50 (ki 64)),sd 52 (.ari .rem false 51 (ki 64)),sd 53 (.add (ki 128) 52),sd 54 (.conv .u8 true 53),kM 55 3,sd 56 (.ari .rem false 55 (ki 64)),sd 57 (.add (ki 128) 56),sd 58 (.conv .u8 true 57),sd 59 (.bslice (.int .u8) [44,49,54,58]),kM 2 59]) .ret
def z3_3:LC:=.seq (.stm [3] [kM 7 0,sd 8 (.conv .i64 false 7),kM 3 8]) (.seq z3_5 (.seq z3_9 (.seq z3_13 z3_16)))
def z3_0:LC:=.seq z3_1 z3_3
def z3:LC:=.seq (.stm [0] [kM 2 kn]) z3_0
theorem jhv:jad Tryz.prog eqs0 123 z3 [.t 2] 60=true:=by kernel_rfl
def z4_12:LC:=.seq (.stm [2,3] [sd 2 (.mov (.c (.int .i32 0))),kM 3 kf]) .ret
def z4_11:LC:=.cond 50 (.reg [0,4] [kR 0 52 (.mov 0),kR 1 53 (.ixS 1 52 (ki 0)),kR 2 54 (.ld 1 53),kR 3 55 (.conv .i64 false 54),kR 4 56 (.sub 55 (ki 240)),kR 5 57 (.ari .mul false 56 (ki 262144)),kR 6 58 (.mov 0),kR 7 59 (.ixS 1 58 (ki 1)),kR 8 60 (.ld 1 59),kR 9 61 (.conv .i64 false 60),kR 10 62 (.sub 61 (ki 128)),kR 11 63 (.ari .mul false 62 (ki 4096)),kR 12 64 (.add 57 63),kR 13 65 (.mov 0),kR 14 66 (.ixS 1 65 (ki 2)),kR 15 67 (.ld 1 66),kR 16 68 (.conv .i64 false 67),kR 17 69 (.sub 68 (ki 128)),kR 18 70 (.ari .mul false 69 (ki 64)),kR 19 71 (.add 64 70),kR 20 72 (.mov 0),kR 21 73 (.ixS 1 72 (ki 3)),kR 22 74 (.ld 1 73),kR 23 75 (.conv .i64 false 74),kR 24 76 (.add 71 75),kR 25 77 (.sub 76 (ki 128)),kR 26 4 (.mov 77)]) z4_12
def z4_9:LC:=.cond 29 (.reg [0,4] [kR 0 31 (.mov 0),kR 1 32 (.ixS 1 31 (ki 0)),kR 2 33 (.ld 1 32),kR 3 34 (.conv .i64 false 33),kR 4 35 (.sub 34 (ki 224)),kR 5 36 (.ari .mul false 35 (ki 4096)),kR 6 37 (.mov 0),kR 7 38 (.ixS 1 37 (ki 1)),kR 8 39 (.ld 1 38),kR 9 40 (.conv .i64 false 39),kR 10 41 (.sub 40 (ki 128)),kR 11 42 (.ari .mul false 41 (ki 64)),kR 12 43 (.add 36 42),kR 13 44 (.mov 0),kR 14 45 (.ixS 1 44 (ki 2)),kR 15 46 (.ld 1 45),kR 16 47 (.conv .i64 false 46),kR 17 48 (.add 43 47),kR 18 49 (.sub 48 (ki 128)),kR 19 4 (.mov 49)]) (.seq (.stm [0,50] [sd 51 (.eq 8 (ki 4)),kM 50 51]) z4_11)
def z4_7:LC:=.cond 15 (.reg [0,4] [kR 0 17 (.mov 0),kR 1 18 (.ixS 1 17 (ki 0)),kR 2 19 (.ld 1 18),kR 3 20 (.conv .i64 false 19),kR 4 21 (.sub 20 (ki 192)),kR 5 22 (.ari .mul false 21 (ki 64)),kR 6 23 (.mov 0),kR 7 24 (.ixS 1 23 (ki 1)),kR 8 25 (.ld 1 24),kR 9 26 (.conv .i64 false 25),kR 10 27 (.add 22 26),kR 11 28 (.sub 27 (ki 128)),kR 12 4 (.mov 28)]) (.seq (.stm [0,8,29] [sd 30 (.eq 8 (ki 3)),kM 29 30]) z4_9)
def z4_5:LC:=.cond 9 (.stm [0,4] [kM 11 0,sd 12 (.ixS 1 11 (ki 0)),kL 13 1 12,sd 14 (.conv .i64 false 13),kM 4 14]) (.seq (.stm [0,8,15] [sd 16 (.eq 8 (ki 2)),kM 15 16]) z4_7)
def z4_3:LC:=.block 0 (.seq (.stm [0,8,9] [sd 10 (.eq 8 (ki 1)),kM 9 10]) z4_5)
def z4_2:LC:=.seq (.stm [0,8] [kM 7 0,sd 8 (.len false 7)]) z4_3
def z4_16:LC:=.seq (.stm [2,3] [sd 2 (.mov (.c (.int .i32 0))),kM 3 kf]) .ret
def z4_14:LC:=.seq (.stm [0,4,83] [kM 78 4,sd 79 (.lt 78 (ki 0)),kM 80 79,.g 80 false [kM 81 4,sd 82 (.cmp .gtr 81 (ki 1114111))] 83 kt 82]) (.cond 83 z4_16 .skip)
def z4_21:LC:=.seq (.stm [2,3] [sd 2 (.mov (.c (.int .i32 0))),kM 3 kf]) .ret
def z4_19:LC:=.seq (.stm [0,4,5,97] [kM 87 4,sd 88 (.conv .i32 true 87),sd 89 (.call 90 [88]),sd 90 (.un .not 89),kM 91 90,.g 91 false [kM 92 5,sd 93 (.len false 92),kM 94 0,sd 95 (.len false 94),sd 96 (.cmp .neq 93 95)] 97 kt 96]) (.cond 97 z4_21 .skip)
def z4_34:LC:=.seq (.stm [2,3] [sd 2 (.mov (.c (.int .i32 0))),kM 3 kf]) .ret
def z4_32:LC:=.seq (.reg [0,4,5,99,100,111] [kR 0 103 (.mov 5),kR 1 104 (.mov 6),kR 2 105 (.ixS 1 103 104),kR 3 106 (.ld 1 105),kR 4 107 (.mov 0),kR 5 108 (.mov 6),kR 6 109 (.ixS 1 107 108),kR 7 110 (.ld 1 109),kR 8 111 (.cmp .neq 106 110)]) (.cond 111 z4_34 .skip)
def z4_31:LC:=.seq (.stm [0,4,5,6,99,100] [kM 102 100,kM 6 102]) z4_32
def z4_29:LC:=.seq (.block 2 z4_31) (.stm [0,4,5,99,100] [sd 112 (.add 100 (ki 1)),kM 100 112])
def z4_26:LC:=.seq (.stm [0,4,5,99,100,101] [sd 101 (.lt 100 99)]) (.seq (.cond 101 .skip (.exit 1)) z4_29)
def z4_25:LC:=.loop z4_26
def z4_23:LC:=.seq (.stm [0,4,5,99,100] [kM 98 5,sd 99 (.len false 98),kM 100 (ki 0)]) (.block 1 z4_25)
def z4_35:LC:=.seq (.stm [2,3] [kM 113 4,sd 114 (.conv .i32 true 113),kM 2 114,kM 3 kt]) .ret
def z4_17:LC:=.seq (.stm [0,4,5] [kM 84 4,sd 85 (.conv .i32 true 84),sd 86 (.call 123 [85]),kM 5 86]) (.seq z4_19 (.seq z4_23 z4_35))
def z4_0:LC:=.seq (.stm [0] [kM 4 (ki 0)]) (.seq z4_2 (.seq z4_14 z4_17))
def z4:LC:=.seq (.stm [0] [sd 2 (.mov (.c (.int .i32 0))),kM 3 kf]) z4_0
theorem jcS:jad Tryz.prog eqs0 87 z4 [.t 2,.t 3] 115=true:=by kernel_rfl
def z5_1:LC:=.seq (.stm [0,19] [kM 12 0,sd 13 (.len false 12),sd 14 (.eq 13 (ki 0)),kM 15 14,.g 15 false [kM 16 0,sd 17 (.len false 16),sd 18 (.cmp .gtr 17 (ki 3))] 19 kt 18]) (.cond 19 (.seq (.stm [2] [kM 2 kf]) .ret) .skip)
def z5_9:LC:=.seq (.stm [0,3,24] [kM 23 3,sd 24 (.cmp .leq 23 (ki 4))]) (.cond 24 .skip (.exit 0))
def z5_17:LC:=.seq (.stm [0,3,4,28] [kM 27 4,sd 28 (.lt 27 (ki 2))]) (.cond 28 .skip (.exit 2))
def z5_34:LC:=.cond 42 (.stm [0,3,4,5,34,35] [kM 43 5,kM 44 6,sd 45 (.ixS 1 43 44),sn (.store 1 45 (k8 191))]) .skip
def z5_33:LC:=.seq (.stm [0,3,4,5,6,34,35,42] [kM 41 4,sd 42 (.eq 41 (ki 1))]) z5_34
def z5_32:LC:=.seq (.stm [0,3,4,5,6,34,35] [kM 38 5,kM 39 6,sd 40 (.ixS 1 38 39),sn (.store 1 40 (k8 128))]) z5_33
def z5_31:LC:=.seq (.stm [0,3,4,5,6,34,35] [kM 37 35,kM 6 37]) z5_32
def z5_29:LC:=.seq (.block 5 z5_31) (.stm [0,3,4,5,34,35] [sd 46 (.add 35 (ki 1)),kM 35 46])
def z5_26:LC:=.seq (.stm [0,3,4,5,34,35,36] [sd 36 (.lt 35 34)]) (.seq (.cond 36 .skip (.exit 4)) z5_29)
def z5_25:LC:=.loop z5_26
def z5_23:LC:=.seq (.stm [0,3,4,5,34,35] [kM 33 5,sd 34 (.len false 33),kM 35 (ki 0)]) (.block 4 z5_25)
def z5_44:LC:=.seq (.stm [0,3,4,5,7,54] [kM 53 7,sd 54 (.cmp .leq 53 (ki 191))]) (.cond 54 .skip (.exit 6))
def z5_50:LC:=.seq (.stm [0,3,4,5,7,66] [kM 66 9]) (.cond 66 (.seq (.stm [2] [kM 2 kt]) .ret) .skip)
def z5_49:LC:=.seq (.stm [0,3,4,5,7,9] [kM 62 5,sd 63 (.call 87 [62]),kM 61 63,sd 64 (.ext 61 0),sd 65 (.ext 61 1),kM 8 64,kM 9 65]) z5_50
def z5_48:LC:=.seq (.stm [0,3,4,5,7] [kM 57 5,kM 58 7,sd 59 (.conv .u8 true 58),sd 60 (.ixS 1 57 (ki 1)),sn (.store 1 60 59)]) z5_49
def z5_46:LC:=.seq (.block 7 z5_48) (.stm [0,3,4,5,7] [kM 55 7,sd 56 (.add 55 (ki 1)),kM 7 56])
def z5_42:LC:=.loop (.seq z5_44 z5_46)
def z5_39:LC:=.seq (.seq (.stm [0,3,4,5,7] [kM 7 (ki 128)]) (.block 6 z5_42)) (.exit 3)
def z5_37:LC:=.seq (.stm [0,3,4,5,52] [kM 50 0,sd 51 (.len false 50),sd 52 (.eq 51 (ki 1))]) (.cond 52 z5_39 .skip)
def z5_54:LC:=.seq (.stm [0,3,4,72] [kM 72 11]) (.cond 72 (.seq (.stm [2] [kM 2 kt]) .ret) .skip)
def z5_53:LC:=.seq (.stm [0,3,4,11] [kM 68 5,sd 69 (.call 87 [68]),kM 67 69,sd 70 (.ext 67 0),sd 71 (.ext 67 1),kM 10 70,kM 11 71]) z5_54
def z5_35:LC:=.seq (.stm [0,3,4,5] [kM 47 5,kM 48 0,sd 49 (.cpy (.int .u8) 47 48)]) (.seq z5_37 z5_53)
def z5_21:LC:=.seq (.stm [0,3,4,5] [kM 31 3,sd 32 (.mksl (.int .u8) 1 31 31),kM 5 32]) (.seq z5_23 z5_35)
def z5_19:LC:=.seq (.block 3 z5_21) (.stm [0,3,4] [kM 29 4,sd 30 (.add 29 (ki 1)),kM 4 30])
def z5_15:LC:=.loop (.seq z5_17 z5_19)
def z5_12:LC:=.block 1 (.seq (.stm [0,3,4] [kM 4 (ki 0)]) (.block 2 z5_15))
def z5_11:LC:=.seq z5_12 (.stm [0,3] [kM 25 3,sd 26 (.add 25 (ki 1)),kM 3 26])
def z5_7:LC:=.loop (.seq z5_9 z5_11)
def z5_5:LC:=.seq (.stm [0,3] [kM 20 0,sd 21 (.len false 20),sd 22 (.add 21 (ki 1)),kM 3 22]) (.block 0 z5_7)
def z5_0:LC:=.seq z5_1 (.seq z5_5 (.seq (.stm [2] [kM 2 kf]) .ret))
def z5:LC:=.seq (.stm [0] [kM 2 kf]) z5_0
theorem jez:jad Tryz.prog eqs0 124 z5 [.t 2] 73=true:=by kernel_rfl
def z6_5:LC:=.seq (.stm [4,5] [kM 24 7,sd 25 (.bslice (.int .i32) [24]),sd 26 (.build [.nils] []),kM 4 25,sn (.store 1 5 26)]) .ret
def z6_3:LC:=.seq (.stm [1,2,5,6,7,23] [kM 23 8]) (.cond 23 z6_5 .skip)
def z6_2:LC:=.seq (.stm [1,2,5,6,7,8] [kM 19 6,sd 20 (.call 87 [19]),kM 18 20,sd 21 (.ext 18 0),sd 22 (.ext 18 1),kM 7 21,kM 8 22]) z6_3
def z6_9:LC:=.seq (.stm [4,5] [kM 29 6,sd 30 (.build [.nils] [(0,1,29)]),kM 4 kn,sn (.store 1 5 30)]) .ret
def z6_7:LC:=.seq (.stm [1,2,5,6,28] [kM 27 6,sd 28 (.call 124 [27])]) (.cond 28 z6_9 .skip)
def z6_13:LC:=.seq (.stm [4,5] [sd 35 (.bslice (.int .i32) [(.c (.int .i32 65533))]),sd 36 (.build [.nils] []),kM 4 35,sn (.store 1 5 36)]) .ret
def z6_11:LC:=.seq (.stm [1,5,34] [kF 31 2 0,kL 32 1 31,sd 33 (.len false 32),sd 34 (.eq 33 (ki 0))]) (.cond 34 z6_13 .skip)
def z6_15:LC:=.seq (.reg [4,5] [kR 1 44 (.mov 9),kR 3 46 (.load true 1 10),kR 0 43 (.bslice (.int .i32) [(.c (.int .i32 65533))]),⟨2,some 45,none,.app (.int .i32) 43 44,true,true⟩,kR 4 4 (.mov 45),⟨5,none,none,.store 1 5 46,false,true⟩]) .ret
def z6_14:LC:=.seq (.stm [5,9,10] [sd 38 (.build [.nils] []),kM 39 1,sd 40 (.call 88 [38,39]),kM 37 40,sd 41 (.ext 37 0),sd 42 (.ext 37 1),sd 10 (.zero [.nils]),kM 9 41,sn (.store 1 10 42)]) z6_15
def z6_0:LC:=.seq (.stm [1,2,5,6] [sd 11 (.bslice (.int .u8) []),kF 12 2 0,kL 13 1 12,sd 14 (.app (.int .u8) 11 13),kM 15 1,sd 16 (.bslice (.int .u8) [15]),sd 17 (.app (.int .u8) 14 16),kM 6 17]) (.seq z6_2 (.seq z6_7 (.seq z6_11 z6_14)))
def z6:LC:=.seq (.stm [1,2,5] [sd 2 (.box 0),kM 4 kn,sd 5 (.zero [.nils])]) z6_0
theorem jbc:jad Tryz.prog eqs0 88 z6 [.t 4,.c 5 true 1] 47=true:=by kernel_rfl
def z7_1:LC:=.seq (.stm [6] [kF 3 1 0,kL 4 1 3,sd 5 (.len false 4),sd 6 (.eq 5 (ki 0))]) (.cond 6 (.seq (.stm [2] [kM 2 kn]) .ret) .skip)
def z7_4:LC:=.seq (.stm [2] [sd 7 (.bslice (.int .i32) [(.c (.int .i32 65533))]),kM 2 7]) .ret
def z7_0:LC:=.seq z7_1 z7_4
def z7:LC:=.seq (.stm [1] [sd 1 (.box 0),kM 2 kn]) z7_0
theorem jdC:jad Tryz.prog eqs0 89 z7 [.t 2] 8=true:=by kernel_rfl
def z8_13:LC:=.seq (.reg [0,3,4,6,10,11] [kR 0 16 (.load true 1 4),kR 1 17 (.mov 0),kR 2 18 (.mov 5),kR 3 19 (.ixS 1 17 18),kR 4 20 (.ld 1 19),⟨5,some 21,none,.call 88 [16,20],false,true⟩,kR 6 15 (.mov 21),kR 7 22 (.ext 15 0),kR 8 23 (.ext 15 1),kR 9 6 (.mov 22),⟨10,none,none,.store 1 4 23,false,true⟩]) (.stm [0,3,4,10,11] [kM 24 3,kM 25 6,sd 26 (.app (.int .i32) 24 25),kM 3 26])
def z8_12:LC:=.seq (.stm [0,3,4,5,10,11] [sd 14 (.bslice (.int .i32) []),kM 6 14]) z8_13
def z8_10:LC:=.block 1 (.seq (.stm [0,3,4,5,10,11] [kM 13 11,kM 5 13]) z8_12)
def z8_9:LC:=.seq z8_10 (.stm [0,3,4,10,11] [sd 27 (.add 11 (ki 1)),kM 11 27])
def z8_6:LC:=.seq (.stm [0,3,4,10,11,12] [sd 12 (.lt 11 10)]) (.seq (.cond 12 .skip (.exit 0)) z8_9)
def z8_5:LC:=.loop z8_6
def z8_3:LC:=.seq (.stm [0,3,4,10,11] [kM 9 0,sd 10 (.len false 9),kM 11 (ki 0)]) (.block 0 z8_5)
def z8_14:LC:=.seq (.stm [2] [kM 28 3,sd 29 (.load true 1 4),sd 30 (.call 89 [29]),sd 31 (.app (.int .i32) 28 30),kM 2 31]) .ret
def z8_1:LC:=.seq (.stm [0,3,4] [sd 8 (.build [.nils] []),sd 4 (.zero [.nils]),sn (.store 1 4 8)]) (.seq z8_3 z8_14)
def z8_0:LC:=.seq (.stm [0,3] [sd 7 (.bslice (.int .i32) []),kM 3 7]) z8_1
def z8:LC:=.seq (.stm [0] [kM 2 kn]) z8_0
theorem jiN:jad Tryz.prog eqs0 39 z8 [.t 2] 32=true:=by kernel_rfl
def z9_5:LC:=.seq (.stm [0,3,11] [kM 8 3,kM 9 0,sd 10 (.len false 9),sd 11 (.lt 8 10)]) (.cond 11 .skip (.exit 0))
def z9_14:LC:=.seq (.stm [0,3,4,5,21] [kM 12 5,sd 13 (.cmp .leq 12 (ki 4)),kM 14 13,.g 14 true [kM 15 5,kM 16 0,sd 17 (.len false 16),kM 18 3,sd 19 (.sub 17 18),sd 20 (.cmp .leq 15 19)] 21 20 kf]) (.cond 21 .skip (.exit 2))
def z9_19:LC:=.seq (.stm [0,3,4,5,34] [kM 34 7]) (.cond 34 (.stm [0,3,4,5] [kM 35 5,kM 4 35]) .skip)
def z9_18:LC:=.seq (.stm [0,3,4,5,7] [kM 25 0,kM 26 3,kM 27 3,kM 28 5,sd 29 (.add 27 28),sd 30 (.sl false 1 25 (some 26) (some 29) none),sd 31 (.call 87 [30]),kM 24 31,sd 32 (.ext 24 0),sd 33 (.ext 24 1),kM 6 32,kM 7 33]) z9_19
def z9_16:LC:=.seq (.block 3 z9_18) (.stm [0,3,4,5] [kM 22 5,sd 23 (.add 22 (ki 1)),kM 5 23])
def z9_12:LC:=.loop (.seq z9_14 z9_16)
def z9_10:LC:=.seq (.stm [0,3,4,5] [kM 5 (ki 1)]) (.block 2 z9_12)
def z9_22:LC:=.seq (.stm [0,3,4,37] [kM 36 4,sd 37 (.eq 36 (ki 0))]) (.cond 37 (.seq (.stm [2] [kM 2 kf]) .ret) .skip)
def z9_21:LC:=.seq z9_22 (.stm [0,3] [kM 38 3,kM 39 4,sd 40 (.add 38 39),kM 3 40])
def z9_7:LC:=.block 1 (.seq (.stm [0,3,4] [kM 4 (ki 0)]) (.seq z9_10 z9_21))
def z9_3:LC:=.loop (.seq z9_5 z9_7)
def z9_0:LC:=.seq (.seq (.stm [0,3] [kM 3 (ki 0)]) (.block 0 z9_3)) (.seq (.stm [2] [kM 2 kt]) .ret)
def z9:LC:=.seq (.stm [0] [kM 2 kf]) z9_0
theorem jiO:jad Tryz.prog eqs0 38 z9 [.t 2] 41=true:=by kernel_rfl
def z10_1:LC:=.seq (.stm [0,28] [kM 7 0,sd 8 (.lt 7 (.c (.int .i32 32))),kM 9 8,.g 9 false [kM 10 0,sd 11 (.cmp .geq 10 (.c (.int .i32 127))),kM 12 11,.g 12 true [kM 13 0,sd 14 (.cmp .leq 13 (.c (.int .i32 159)))] 15 14 kf] 16 kt 15,kM 17 16,.g 17 false [kM 18 0,sd 19 (.cmp .geq 18 (.c (.int .i32 55296))),kM 20 19,.g 20 true [kM 21 0,sd 22 (.cmp .leq 21 (.c (.int .i32 57343)))] 23 22 kf] 24 kt 23,kM 25 24,.g 25 false [kM 26 0,sd 27 (.cmp .gtr 26 (.c (.int .i32 1114111)))] 28 kt 27]) (.cond 28 (.seq (.stm [2] [kM 2 (ki 0)]) .ret) .skip)
def z10_14:LC:=.seq (.stm [0,29,30,42] [kM 33 0,sd 34 (.ixA 2 1 4 (ki 0)),kL 35 1 34,sd 36 (.cmp .geq 33 35),kM 37 36,.g 37 true [kM 38 0,sd 39 (.ixA 2 1 4 (ki 1)),kL 40 1 39,sd 41 (.cmp .leq 38 40)] 42 41 kf]) (.cond 42 (.seq (.stm [2] [kM 2 (ki 0)]) .ret) .skip)
def z10_13:LC:=.seq (.stm [0,4,29,30] [sd 32 (.ixC 3 2 true 29 30),sd 4 (.zero [.int .i32 0,.int .i32 0]),sn (.store 2 4 32)]) z10_14
def z10_11:LC:=.seq (.block 1 z10_13) (.stm [0,29,30] [sd 43 (.add 30 (ki 1)),kM 30 43])
def z10_8:LC:=.seq (.stm [0,29,30,31] [sd 31 (.lt 30 (ki 3))]) (.seq (.cond 31 .skip (.exit 0)) z10_11)
def z10_7:LC:=.loop z10_8
def z10_5:LC:=.seq (.stm [0,29,30] [sd 29 (.load true 6 (.c (.gptr 0 0))),kM 30 (ki 0)]) (.block 0 z10_7)
def z10_27:LC:=.seq (.stm [0,44,45,57] [kM 48 0,sd 49 (.ixA 2 1 6 (ki 0)),kL 50 1 49,sd 51 (.cmp .geq 48 50),kM 52 51,.g 52 true [kM 53 0,sd 54 (.ixA 2 1 6 (ki 1)),kL 55 1 54,sd 56 (.cmp .leq 53 55)] 57 56 kf]) (.cond 57 (.seq (.stm [2] [kM 2 (ki 2)]) .ret) .skip)
def z10_26:LC:=.seq (.stm [0,6,44,45] [sd 47 (.ixC 10 2 true 44 45),sd 6 (.zero [.int .i32 0,.int .i32 0]),sn (.store 2 6 47)]) z10_27
def z10_24:LC:=.seq (.block 3 z10_26) (.stm [0,44,45] [sd 58 (.add 45 (ki 1)),kM 45 58])
def z10_21:LC:=.seq (.stm [0,44,45,46] [sd 46 (.lt 45 (ki 10))]) (.seq (.cond 46 .skip (.exit 2)) z10_24)
def z10_20:LC:=.loop z10_21
def z10_18:LC:=.seq (.stm [0,44,45] [sd 44 (.load true 20 (.c (.gptr 1 0))),kM 45 (ki 0)]) (.block 2 z10_20)
def z10_0:LC:=.seq z10_1 (.seq z10_5 (.seq z10_18 (.seq (.stm [2] [kM 2 (ki 1)]) .ret)))
def z10:LC:=.seq (.stm [0] [kM 2 (ki 0)]) z10_0
theorem jfE:jad Tryz.prog eqs0 95 z10 [.t 2] 59=true:=by kernel_rfl
def z11_11:LC:=.seq (.stm [0,3,8,49] [kM 18 5,sd 19 (.eq 18 (.c (.int .i32 65533))),kM 20 19,.g 20 true [kM 21 0,sd 22 (.len false 21),kM 23 4,sd 24 (.sub 22 23),sd 25 (.lt 24 (ki 3)),kM 26 25,.g 26 false [kM 27 0,kM 28 4,sd 29 (.ixS 1 27 28),kL 30 1 29,sd 31 (.cmp .neq 30 (k8 239))] 32 kt 31,kM 33 32,.g 33 false [kM 34 0,kM 35 4,sd 36 (.add 35 (ki 1)),sd 37 (.ixS 1 34 36),kL 38 1 37,sd 39 (.cmp .neq 38 (k8 191))] 40 kt 39,kM 41 40,.g 41 false [kM 42 0,kM 43 4,sd 44 (.add 43 (ki 2)),sd 45 (.ixS 1 42 44),kL 46 1 45,sd 47 (.cmp .neq 46 (k8 189))] 48 kt 47] 49 48 kf]) (.cond 49 (.seq (.stm [2] [kM 2 kf]) .ret) .skip)
def z11_10:LC:=.seq (.stm [0,3,4,5,8] [kM 13 4,kM 14 5,sd 15 (.i2s 14),sd 16 (.len true 15),sd 17 (.add 13 16),kM 3 17]) z11_11
def z11_9:LC:=.seq (.stm [0,4,5,8] [sd 11 (.ext 9 1),sd 12 (.ext 9 2),kM 4 11,kM 5 12]) z11_10
def z11_5:LC:=.seq (.stm [0,3,8,9,10] [sd 9 (.nxt 8),sd 10 (.ext 9 0)]) (.seq (.cond 10 .skip (.exit 0)) (.block 1 z11_9))
def z11_4:LC:=.loop z11_5
def z11_2:LC:=.seq (.stm [0,3,8] [kM 6 0,sd 7 (.b2s 6),sd 8 (.rng 7)]) (.block 0 z11_4)
def z11_14:LC:=.seq (.stm [2] [kM 50 3,kM 51 0,sd 52 (.len false 51),sd 53 (.eq 50 52),kM 2 53]) .ret
def z11_0:LC:=.seq (.stm [0,3] [kM 3 (ki 0)]) (.seq z11_2 z11_14)
def z11:LC:=.seq (.stm [0] [kM 2 kf]) z11_0
theorem jiP:jad Tryz.prog eqs0 94 z11 [.t 2] 54=true:=by kernel_rfl
end
section
open Go.RowKit
set_option maxRecDepth 100000
def z12_0:LC:=.seq (.stm [2] [kM 3 0,sd 4 (.cmp .leq 3 (.c (.int .u32 256))),kM 5 4,.g 5 false [kM 6 0,sd 7 (.cmp .geq 6 (.c (.int .u32 16777216))),kM 8 7,.g 8 true [kM 9 0,sd 10 (.cmp .leq 9 (.c (.int .u32 33554431)))] 11 10 kf] 12 kt 11,kM 2 12]) .ret
def z12:LC:=.seq (.stm [0] [kM 2 kf]) z12_0
theorem jcT:jad Tryz.prog eqs0 158 z12 [.t 2] 13=true:=by kernel_rfl
def z13_0:LC:=.seq (.stm [2] [kF 3 1 0,kL 4 1 3,sd 5 (.call 158 [4]),kM 6 5,.g 6 true [kF 7 1 1,kL 8 1 7,sd 9 (.call 158 [8])] 10 9 kf,kM 2 10]) .ret
def z13:LC:=.seq (.stm [1] [sd 1 (.box 0),kM 2 kf]) z13_0
theorem jgh:jad Tryz.prog eqs0 186 z13 [.t 2] 11=true:=by kernel_rfl
def z14_1:LC:=.seq (.stm [1,6] [kF 3 1 2,sd 4 (.load true 4 3),sd 5 (.call 186 [4]),sd 6 (.un .not 5)]) (.cond 6 (.seq (.stm [2] [kM 2 kf]) .ret) .skip)
def z14_9:LC:=.seq (.stm [2] [kF 11 1 0,kL 12 1 11,sd 13 (.call 95 [12]),sd 14 (.eq 13 (ki 1)),kM 2 14]) .ret
def z14_12:LC:=.seq (.stm [2] [kF 17 1 0,kL 18 1 17,sd 19 (.call 95 [18]),sd 20 (.eq 19 (ki 2)),kM 2 20]) .ret
def z14_10:LC:=.seq (.stm [1,15] [sd 16 (.eq 8 (k8 1)),kM 15 16]) (.cond 15 z14_12 .skip)
def z14_7:LC:=.seq (.stm [1,8,9] [sd 10 (.eq 8 (k8 0)),kM 9 10]) (.cond 9 z14_9 z14_10)
def z14_13:LC:=.seq (.stm [2] [kF 21 1 1,kL 22 1 21,sd 23 (.eq 22 (k8 2)),kM 24 23,.g 24 true [kF 25 1 0,kL 26 1 25,sd 27 (.eq 26 (.c (.int .i32 0)))] 28 27 kf,kM 2 28]) .ret
def z14_4:LC:=.seq (.seq (.stm [1,8] [kF 7 1 1,kL 8 1 7]) (.block 0 z14_7)) z14_13
def z14_0:LC:=.seq z14_1 z14_4
def z14:LC:=.seq (.stm [1] [sd 1 (.box 0),kM 2 kf]) z14_0
theorem jkh:jad Tryz.prog eqs0 156 z14 [.t 2] 29=true:=by kernel_rfl
def z15_1:LC:=.seq (.stm [0,13] [kM 6 0,sd 7 (.len false 6),sd 8 (.lt 7 (ki 1)),kM 9 8,.g 9 false [kM 10 0,sd 11 (.len false 10),sd 12 (.cmp .gtr 11 (ki 80))] 13 kt 12]) (.cond 13 (.seq (.stm [2] [kM 2 kf]) .ret) .skip)
def z15_15:LC:=.seq (.reg [0,14,15,16,55] [kR 0 32 (.load true 6 4),⟨1,some 33,none,.call 156 [32],false,true⟩,kR 2 34 (.un .not 33),kR 3 35 (.mov 34),⟨4,some 36,some (35,false),.mov 5,false,false⟩,⟨5,some 37,some (35,false),.faddr 4 1,false,false⟩,⟨6,some 38,some (35,false),.load false 1 37,false,false⟩,⟨7,some 39,some (35,false),.eq 38 (k8 2),false,false⟩,⟨8,some 40,some (35,false),.cmpB true 36 39,false,false⟩,kR 9 41 (.pick 35 kt 40),kR 10 42 (.mov 41),⟨11,some 43,some (42,false),.mov 5,false,false⟩,⟨12,some 44,some (42,false),.mov 43,false,false⟩,⟨13,some 45,some (44,true),.mov 0,false,false⟩,⟨14,some 46,some (44,true),.mov 3,false,false⟩,⟨15,some 47,some (44,true),.sub 46 (ki 1),false,false⟩,⟨16,some 48,some (44,true),.ixS 6 45 47,false,false⟩,⟨17,some 49,some (44,true),.faddr 48 2,false,false⟩,⟨18,some 50,some (44,true),.load true 4 49,false,false⟩,⟨19,some 51,some (44,true),.faddr 4 2,false,false⟩,⟨20,some 52,some (44,true),.load true 4 51,false,false⟩,⟨21,some 53,some (44,true),.eqA [.u32,.u32,.u8,.u16] true 50 52,false,false⟩,⟨22,some 54,some (42,false),.pick 44 53 kf,false,false⟩,kR 23 55 (.pick 42 kt 54)]) (.cond 55 (.seq (.stm [2] [kM 2 kf]) .ret) .skip)
def z15_14:LC:=.seq (.stm [0,3,4,5,14,15,16] [kM 21 3,sd 22 (.cmp .gtr 21 (ki 0)),kM 23 22,.g 23 true [kM 24 0,kM 25 3,sd 26 (.sub 25 (ki 1)),sd 27 (.ixS 6 24 26),kF 28 27 1,kL 29 1 28,sd 30 (.eq 29 (k8 1))] 31 30 kf,kM 5 31]) z15_15
def z15_13:LC:=.seq (.stm [0,3,4,14,15,16] [kM 18 16,sd 19 (.ixS 6 14 16),sd 20 (.load true 6 19),sd 4 (.zero [.int .i32 0,.int .u8 0,.int .u32 0,.int .u32 0,.int .u8 0,.int .u16 0]),kM 3 18,sn (.store 6 4 20)]) z15_14
def z15_11:LC:=.seq (.block 1 z15_13) (.stm [0,14,15,16] [sd 56 (.add 16 (ki 1)),kM 16 56])
def z15_8:LC:=.seq (.stm [0,14,15,16,17] [sd 17 (.lt 16 15)]) (.seq (.cond 17 .skip (.exit 0)) z15_11)
def z15_7:LC:=.loop z15_8
def z15_5:LC:=.seq (.stm [0,14,15,16] [kM 14 0,sd 15 (.len false 14),kM 16 (ki 0)]) (.block 0 z15_7)
def z15_18:LC:=.seq (.stm [2] [kM 57 0,kM 58 0,sd 59 (.len false 58),sd 60 (.sub 59 (ki 1)),sd 61 (.ixS 6 57 60),kF 62 61 1,kL 63 1 62,sd 64 (.cmp .neq 63 (k8 1)),kM 2 64]) .ret
def z15_0:LC:=.seq z15_1 (.seq z15_5 z15_18)
def z15:LC:=.seq (.stm [0] [kM 2 kf]) z15_0
theorem jgi:jad Tryz.prog eqs0 126 z15 [.t 2] 65=true:=by kernel_rfl
def z16_0:LC:=.seq (.stm [2] [kF 3 1 1,kL 4 1 3,sd 5 (.build [.int .u32 0,.int .u32 0,.int .u8 0,.int .u16 0] [(1,1,4)]),sd 6 (.build [.int .i32 0,.int .u8 0,.int .u32 0,.int .u32 0,.int .u8 0,.int .u16 0] [(0,1,(.c (.int .i32 32))),(2,4,5)]),sn (.store 6 2 6)]) .ret
def z16:LC:=.seq (.stm [1,2] [sd 1 (.box 0),sd 2 (.zero [.int .i32 0,.int .u8 0,.int .u32 0,.int .u32 0,.int .u8 0,.int .u16 0])]) z16_0
theorem jdi:jad Tryz.prog eqs0 203 z16 [.c 2 true 6] 7=true:=by kernel_rfl
def z17_0:LC:=.seq (.stm [2] [kF 3 1 0,kL 4 1 3,sd 5 (.call 158 [4]),kM 6 5,.g 6 true [kF 7 1 1,kL 8 1 7,sd 9 (.call 158 [8])] 10 9 kf,kM 2 10]) .ret
def z17:LC:=.seq (.stm [1] [sd 1 (.box 0),kM 2 kf]) z17_0
theorem jgj:jad Tryz.prog eqs0 206 z17 [.t 2] 11=true:=by kernel_rfl
def z18_0:LC:=.seq (.stm [2] [kM 3 0,sd 4 (.cmp .leq 3 (.c (.int .u32 256))),kM 5 4,.g 5 false [kM 6 0,sd 7 (.cmp .geq 6 (.c (.int .u32 16777216))),kM 8 7,.g 8 true [kM 9 0,sd 10 (.lt 9 (.c (.int .u32 33554432)))] 11 10 kf] 12 kt 11,kM 2 12]) .ret
def z18:LC:=.seq (.stm [0] [kM 2 kf]) z18_0
theorem jfq:jad Tryz.prog eqs0 118 z18 [.t 2] 13=true:=by kernel_rfl
def z19_0:LC:=.seq (.stm [2] [kF 3 1 0,kL 4 1 3,sd 5 (.call 118 [4]),kM 6 5,.g 6 true [kF 7 1 1,kL 8 1 7,sd 9 (.call 118 [8])] 10 9 kf,kM 2 10]) .ret
def z19:LC:=.seq (.stm [1] [sd 1 (.box 0),kM 2 kf]) z19_0
theorem jhy:jad Tryz.prog eqs0 115 z19 [.t 2] 11=true:=by kernel_rfl
def z20_1:LC:=.seq (.stm [2] [kF 7 1 2,sd 8 (.load true 4 7),sd 9 (.call 115 [8]),kM 10 9,.g 10 true [kF 11 1 1,kL 12 1 11,sd 13 (.eq 12 (k8 0)),kM 14 13,.g 14 true [kM 15 3,sd 16 (.eq 15 (ki 1))] 17 16 kf,kM 18 17,.g 18 false [kF 19 1 1,kL 20 1 19,sd 21 (.eq 20 (k8 1)),kM 22 21,.g 22 true [kM 23 3,sd 24 (.eq 23 (ki 2))] 25 24 kf] 26 kt 25,kM 27 26,.g 27 false [kF 28 1 1,kL 29 1 28,sd 30 (.eq 29 (k8 2)),kM 31 30,.g 31 true [kF 32 1 0,kL 33 1 32,sd 34 (.eq 33 (.c (.int .i32 0)))] 35 34 kf] 36 kt 35] 37 36 kf,kM 2 37]) .ret
def z20_0:LC:=.seq (.stm [1,3] [kF 4 1 0,kL 5 1 4,sd 6 (.call 40 [5]),kM 3 6]) z20_1
def z20:LC:=.seq (.stm [1] [sd 1 (.box 0),kM 2 kf]) z20_0
theorem jml:jad Tryz.prog eqs0 68 z20 [.t 2] 38=true:=by kernel_rfl
def z21_1:LC:=.seq (.stm [0,11] [kM 4 0,sd 5 (.len false 4),sd 6 (.eq 5 (ki 0)),kM 7 6,.g 7 false [kM 8 0,sd 9 (.len false 8),sd 10 (.cmp .gtr 9 (ki 80))] 11 kt 10]) (.cond 11 (.seq (.stm [2] [kM 2 kf]) .ret) .skip)
def z21_9:LC:=.seq (.stm [0,3,15] [kM 12 3,kM 13 0,sd 14 (.len false 13),sd 15 (.lt 12 14)]) (.cond 15 .skip (.exit 0))
def z21_14:LC:=.seq (.stm [0,3,23] [kM 18 0,kM 19 3,sd 20 (.ixS 6 18 19),sd 21 (.load true 6 20),sd 22 (.call 68 [21]),sd 23 (.un .not 22)]) (.cond 23 (.seq (.stm [2] [kM 2 kf]) .ret) .skip)
def z21_18:LC:=.seq (.reg [0,3,59] [kR 0 24 (.mov 0),kR 1 25 (.mov 3),kR 2 26 (.ixS 6 24 25),kR 3 27 (.fa 26 1),kR 4 28 (.ld 1 27),kR 5 29 (.eq 28 (k8 1)),kR 6 30 (.mov 29),⟨7,some 31,some (30,true),.mov 3,false,false⟩,⟨8,some 32,some (30,true),.mov 0,false,false⟩,⟨9,some 33,some (30,true),.len false 32,false,false⟩,⟨10,some 34,some (30,true),.sub 33 (ki 1),false,false⟩,⟨11,some 35,some (30,true),.eq 31 34,false,false⟩,⟨12,some 36,some (30,true),.mov 35,false,false⟩,⟨13,some 37,some (36,false),.mov 0,false,false⟩,⟨14,some 38,some (36,false),.mov 3,false,false⟩,⟨15,some 39,some (36,false),.add 38 (ki 1),false,false⟩,⟨16,some 40,some (36,false),.ixS 6 37 39,false,false⟩,⟨17,some 41,some (36,false),.faddr 40 1,false,false⟩,⟨18,some 42,some (36,false),.load false 1 41,false,false⟩,⟨19,some 43,some (36,false),.cmp .neq 42 (k8 2),false,false⟩,⟨20,some 44,some (30,true),.pick 36 kt 43,false,false⟩,⟨21,some 45,some (30,true),.mov 44,false,false⟩,⟨22,some 46,some (45,false),.mov 0,false,false⟩,⟨23,some 47,some (45,false),.mov 3,false,false⟩,⟨24,some 48,some (45,false),.add 47 (ki 1),false,false⟩,⟨25,some 49,some (45,false),.ixS 6 46 48,false,false⟩,⟨26,some 50,some (45,false),.faddr 49 2,false,false⟩,⟨27,some 51,some (45,false),.load true 4 50,false,false⟩,⟨28,some 52,some (45,false),.mov 0,false,false⟩,⟨29,some 53,some (45,false),.mov 3,false,false⟩,⟨30,some 54,some (45,false),.ixS 6 52 53,false,false⟩,⟨31,some 55,some (45,false),.faddr 54 2,false,false⟩,⟨32,some 56,some (45,false),.load true 4 55,false,false⟩,⟨33,some 57,some (45,false),.eqA [.u32,.u32,.u8,.u16] true 51 56,false,false⟩,⟨34,some 58,some (30,true),.pick 45 kt 57,false,false⟩,kR 35 59 (.pick 30 58 kf)]) (.cond 59 (.seq (.stm [2] [kM 2 kf]) .ret) .skip)
def z21_21:LC:=.seq (.stm [0,3,78] [kM 60 0,kM 61 3,sd 62 (.ixS 6 60 61),kF 63 62 1,kL 64 1 63,sd 65 (.eq 64 (k8 2)),kM 66 65,.g 66 true [kM 67 3,sd 68 (.eq 67 (ki 0)),kM 69 68,.g 69 false [kM 70 0,kM 71 3,sd 72 (.sub 71 (ki 1)),sd 73 (.ixS 6 70 72),kF 74 73 1,kL 75 1 74,sd 76 (.cmp .neq 75 (k8 1))] 77 kt 76] 78 77 kf]) (.cond 78 (.seq (.stm [2] [kM 2 kf]) .ret) .skip)
def z21_11:LC:=.seq (.block 1 (.seq z21_14 (.seq z21_18 z21_21))) (.stm [0,3] [kM 16 3,sd 17 (.add 16 (ki 1)),kM 3 17])
def z21_7:LC:=.loop (.seq z21_9 z21_11)
def z21_4:LC:=.seq (.seq (.stm [0,3] [kM 3 (ki 0)]) (.block 0 z21_7)) (.seq (.stm [2] [kM 2 kt]) .ret)
def z21_0:LC:=.seq z21_1 z21_4
def z21:LC:=.seq (.stm [0] [kM 2 kf]) z21_0
theorem jhz:jad Tryz.prog eqs0 85 z21 [.t 2] 79=true:=by kernel_rfl
def z22_0:LC:=.seq (.stm [2] [kF 3 1 1,kL 4 1 3,sd 5 (.build [.int .u32 0,.int .u32 0,.int .u8 0,.int .u16 0] [(1,1,4)]),sd 6 (.build [.int .i32 0,.int .u8 0,.int .u32 0,.int .u32 0,.int .u8 0,.int .u16 0] [(0,1,(.c (.int .i32 32))),(2,4,5)]),sn (.store 6 2 6)]) .ret
def z22:LC:=.seq (.stm [1,2] [sd 1 (.box 0),sd 2 (.zero [.int .i32 0,.int .u8 0,.int .u32 0,.int .u32 0,.int .u8 0,.int .u16 0])]) z22_0
theorem jiY:jad Tryz.prog eqs0 132 z22 [.c 2 true 6] 7=true:=by kernel_rfl
def z23_1:LC:=.seq (.stm [3] [kM 7 3,kM 8 0,sd 9 (.cpy .cell 7 8)]) (.seq (.stm [2] [kM 10 3,kM 2 10]) .ret)
def z23_0:LC:=.seq (.stm [0,3] [kM 4 0,sd 5 (.len false 4),sd 6 (.mksl .cell 20 5 5),kM 3 6]) z23_1
def z23:LC:=.seq (.stm [0] [kM 2 kn]) z23_0
theorem jdE:jad Tryz.prog eqs0 84 z23 [.t 2] 11=true:=by kernel_rfl
def z24_1:LC:=.seq (.stm [0,1,10] [kM 6 0,sd 7 (.len false 6),kM 8 1,sd 9 (.len false 8),sd 10 (.cmp .neq 7 9)]) (.cond 10 (.seq (.stm [4] [kM 4 kf]) .ret) .skip)
def z24_14:LC:=.seq (.reg [0,1,12,13,24] [kR 0 16 (.mov 0),kR 1 17 (.mov 5),kR 2 18 (.ixS 6 16 17),kR 3 19 (.load true 6 18),kR 4 20 (.mov 1),kR 5 21 (.mov 5),kR 6 22 (.ixS 6 20 21),kR 7 23 (.load true 6 22),kR 8 24 (.eqA [.i32,.u8,.u32,.u32,.u8,.u16] true 19 23)]) (.cond 24 (.seq (.stm [4] [kM 4 kf]) .ret) .skip)
def z24_12:LC:=.block 1 (.seq (.stm [0,1,5,12,13] [kM 15 13,kM 5 15]) z24_14)
def z24_11:LC:=.seq z24_12 (.stm [0,1,12,13] [sd 25 (.add 13 (ki 1)),kM 13 25])
def z24_8:LC:=.seq (.stm [0,1,12,13,14] [sd 14 (.lt 13 12)]) (.seq (.cond 14 .skip (.exit 0)) z24_11)
def z24_7:LC:=.loop z24_8
def z24_5:LC:=.seq (.stm [0,1,12,13] [kM 11 0,sd 12 (.len false 11),kM 13 (ki 0)]) (.block 0 z24_7)
def z24_0:LC:=.seq z24_1 (.seq z24_5 (.seq (.stm [4] [kM 4 kt]) .ret))
def z24:LC:=.seq (.stm [0,1] [kM 4 kf]) z24_0
theorem je4:jad Tryz.prog eqs0 83 z24 [.t 4] 26=true:=by kernel_rfl
def z25_1:LC:=.seq (.stm [0,4] [kM 3 0,.n 4 false 3]) (.cond 4 (.seq (.stm [2] [kM 2 kn]) .ret) .skip)
def z25_4:LC:=.seq (.stm [2] [sd 5 (.bslice .cell []),kM 6 0,sd 7 (.app .cell 5 6),kM 2 7]) .ret
def z25_0:LC:=.seq z25_1 z25_4
def z25:LC:=.seq (.stm [0] [kM 2 kn]) z25_0
theorem jaT:jad Tryz.prog eqs0 42 z25 [.t 2] 8=true:=by kernel_rfl
def z26_1:LC:=.seq (.stm [0,1,10] [kM 6 0,sd 7 (.len false 6),kM 8 1,sd 9 (.len false 8),sd 10 (.cmp .neq 7 9)]) (.cond 10 (.seq (.stm [4] [kM 4 kf]) .ret) .skip)
def z26_14:LC:=.seq (.reg [0,1,12,13,24] [kR 0 16 (.mov 0),kR 1 17 (.mov 5),kR 2 18 (.ixS 6 16 17),kR 3 19 (.load true 6 18),kR 4 20 (.mov 1),kR 5 21 (.mov 5),kR 6 22 (.ixS 6 20 21),kR 7 23 (.load true 6 22),kR 8 24 (.eqA [.i32,.u8,.u32,.u32,.u8,.u16] true 19 23)]) (.cond 24 (.seq (.stm [4] [kM 4 kf]) .ret) .skip)
def z26_12:LC:=.block 1 (.seq (.stm [0,1,5,12,13] [kM 15 13,kM 5 15]) z26_14)
def z26_11:LC:=.seq z26_12 (.stm [0,1,12,13] [sd 25 (.add 13 (ki 1)),kM 13 25])
def z26_8:LC:=.seq (.stm [0,1,12,13,14] [sd 14 (.lt 13 12)]) (.seq (.cond 14 .skip (.exit 0)) z26_11)
def z26_7:LC:=.loop z26_8
def z26_5:LC:=.seq (.stm [0,1,12,13] [kM 11 0,sd 12 (.len false 11),kM 13 (ki 0)]) (.block 0 z26_7)
def z26_0:LC:=.seq z26_1 (.seq z26_5 (.seq (.stm [4] [kM 4 kt]) .ret))
def z26:LC:=.seq (.stm [0,1] [kM 4 kf]) z26_0
theorem ja5:jad Tryz.prog eqs0 161 z26 [.t 4] 26=true:=by kernel_rfl
def z27_10:LC:=.seq (.stm [3,5,6,7,8] [sd 10 (.ixS 1 6 8),kL 11 1 10,kM 5 11]) (.stm [3,6,7,8] [kM 12 3,kM 13 5,sd 14 (.conv .u64 true 13),sd 15 (.call 168 [14]),sd 16 (.app (.int .u8) 12 15),kM 3 16])
def z27_8:LC:=.seq (.block 1 z27_10) (.stm [3,6,7,8] [sd 17 (.add 8 (ki 1)),kM 8 17])
def z27_5:LC:=.seq (.stm [3,6,7,8,9] [sd 9 (.lt 8 7)]) (.seq (.cond 9 .skip (.exit 0)) z27_8)
def z27_4:LC:=.loop z27_5
def z27_2:LC:=.seq (.stm [3,6,7,8] [kM 6 0,sd 7 (.len false 6),kM 8 (ki 0)]) (.block 0 z27_4)
def z27_0:LC:=.seq (.stm [0,3] [kM 3 kn]) (.seq z27_2 (.seq (.stm [2] [kM 18 3,kM 2 18]) .ret))
def z27:LC:=.seq (.stm [0] [kM 2 kn]) z27_0
theorem jdj:jad Tryz.prog eqs0 180 z27 [.t 2] 19=true:=by kernel_rfl
end
section
open Go.RowKit
set_option maxRecDepth 100000
def z28_0:LC:=.seq (.stm [4] [kM 5 0,sd 6 (.cmp .geq 5 (ki 1)),kM 7 6,.g 7 true [kM 8 0,sd 9 (.cmp .leq 8 (ki 80))] 10 9 kf,kM 11 10,.g 11 true [kM 12 1,sd 13 (.cmp .geq 12 (ki 1))] 14 13 kf,kM 15 14,.g 15 true [kM 16 1,sd 17 (.cmp .leq 16 (ki 24))] 18 17 kf,kM 4 18]) .ret
def z28:LC:=.seq (.stm [0,1] [kM 4 kf]) z28_0
theorem jfK:jad Tryz.prog eqs0 125 z28 [.t 4] 19=true:=by kernel_rfl
def z29_0:LC:=.seq (.stm [4] [kF 5 2 2,kL 6 1 5,kM 7 1,kF 8 2 0,kL 9 1 8,sd 10 (.ari .mul false 7 9),kM 11 1,sd 12 (.add 11 (ki 1)),kF 13 2 0,kL 14 1 13,sd 15 (.ari .mul false 12 14),kM 16 1,sd 17 (.add 16 (ki 1)),kF 18 2 0,kL 19 1 18,sd 20 (.ari .mul false 17 19),sd 21 (.sl false 6 6 (some 10) (some 15) (some 20)),kM 4 21]) .ret
def z29:LC:=.seq (.stm [1,2] [sd 2 (.box 0),kM 4 kn]) z29_0
theorem je6:jad Tryz.prog eqs0 127 z29 [.t 4] 22=true:=by kernel_rfl
def z30_1:LC:=.seq (.stm [1,20] [kF 4 1 0,kL 5 1 4,kF 6 1 1,kL 7 1 6,sd 8 (.call 125 [5,7]),sd 9 (.un .not 8),kM 10 9,.g 10 false [kF 11 1 2,kL 12 1 11,sd 13 (.len false 12),kF 14 1 0,kL 15 1 14,kF 16 1 1,kL 17 1 16,sd 18 (.ari .mul false 15 17),sd 19 (.cmp .neq 13 18)] 20 kt 19]) (.cond 20 (.seq (.stm [2] [kM 2 kf]) .ret) .skip)
def z30_14:LC:=.seq (.stm [1,22,23,30] [sd 26 (.load true 3 1),kM 27 3,sd 28 (.call 127 [26,27]),sd 29 (.call 126 [28]),sd 30 (.un .not 29)]) (.cond 30 (.seq (.stm [2] [kM 2 kf]) .ret) .skip)
def z30_12:LC:=.block 1 (.seq (.stm [1,3,22,23] [kM 25 23,kM 3 25]) z30_14)
def z30_11:LC:=.seq z30_12 (.stm [1,22,23] [sd 31 (.add 23 (ki 1)),kM 23 31])
def z30_8:LC:=.seq (.stm [1,22,23,24] [sd 24 (.lt 23 22)]) (.seq (.cond 24 .skip (.exit 0)) z30_11)
def z30_7:LC:=.loop z30_8
def z30_5:LC:=.seq (.stm [1,22,23] [kF 21 1 1,kL 22 1 21,kM 23 (ki 0)]) (.block 0 z30_7)
def z30_0:LC:=.seq z30_1 (.seq z30_5 (.seq (.stm [2] [kM 2 kt]) .ret))
def z30:LC:=.seq (.stm [1] [sd 1 (.box 0),kM 2 kf]) z30_0
theorem jg3:jad Tryz.prog eqs0 92 z30 [.t 2] 32=true:=by kernel_rfl
def z31_3:LC:=.seq (.stm [4,5] [sd 14 (.build [.int .i64 0,.int .i64 0,.nils] []),sn (.store 3 4 14),kM 5 kf]) .ret
def z31_1:LC:=.seq (.stm [2,4,13] [sd 6 (.load true 3 2),sd 7 (.call 92 [6]),sd 8 (.un .not 7),kM 9 8,.g 9 false [sd 10 (.load true 4 3),sd 11 (.call 206 [10]),sd 12 (.un .not 11)] 13 kt 12]) (.cond 13 z31_3 .skip)
def z31_5:LC:=.seq (.stm [4,5] [sd 19 (.load true 3 2),sn (.store 3 4 19),kM 5 kt]) .ret
def z31_4:LC:=.seq (.stm [2,4] [kF 15 2 2,kL 16 1 15,sd 17 (.call 42 [16]),kF 18 2 2,sn (.store 1 18 17)]) z31_5
def z31_0:LC:=.seq z31_1 z31_4
def z31:LC:=.seq (.stm [2,3,4] [sd 2 (.box 0),sd 3 (.box 1),sd 4 (.zero [.int .i64 0,.int .i64 0,.nils]),kM 5 kf]) z31_0
theorem jkm:jad Tryz.prog eqs0 205 z31 [.c 4 true 3,.t 5] 20=true:=by kernel_rfl
def z32_3:LC:=.seq (.stm [4,5] [sd 12 (.build [.int .i64 0,.int .i64 0,.nils] []),sn (.store 3 4 12),kM 5 (ki 1)]) .ret
def z32_1:LC:=.seq (.stm [0,1,4,11] [kM 8 0,kM 9 1,sd 10 (.call 125 [8,9]),sd 11 (.un .not 10)]) (.cond 11 z32_3 .skip)
def z32_14:LC:=.seq (.stm [4,6,7,22,23] [kM 25 23,kM 7 25]) (.reg [4,6,22,23] [kR 0 26 (.fa 6 2),kR 1 27 (.ld 1 26),kR 2 28 (.mov 7),kR 3 29 (.build [.int .u32 0,.int .u32 0,.int .u8 0,.int .u16 0] []),⟨4,some 30,none,.call 203 [29],true,true⟩,kR 5 31 (.ixS 6 27 28),⟨6,none,none,.store 6 31 30,false,true⟩])
def z32_12:LC:=.seq (.block 1 z32_14) (.stm [4,6,22,23] [sd 32 (.add 23 (ki 1)),kM 23 32])
def z32_9:LC:=.seq (.stm [4,6,22,23,24] [sd 24 (.lt 23 22)]) (.seq (.cond 24 .skip (.exit 0)) z32_12)
def z32_8:LC:=.loop z32_9
def z32_6:LC:=.seq (.stm [4,6,22,23] [kF 20 6 2,kL 21 1 20,sd 22 (.len false 21),kM 23 (ki 0)]) (.block 0 z32_8)
def z32_15:LC:=.seq (.stm [4,5] [sd 33 (.load true 3 6),sn (.store 3 4 33),kM 5 (ki 0)]) .ret
def z32_4:LC:=.seq (.stm [4,6] [kM 13 0,kM 14 1,kM 15 0,kM 16 1,sd 17 (.ari .mul false 15 16),sd 18 (.mksl .cell 20 17 17),sd 19 (.build [.int .i64 0,.int .i64 0,.nils] [(0,1,13),(1,1,14),(2,1,18)]),sd 6 (.zero [.int .i64 0,.int .i64 0,.nils]),sn (.store 3 6 19)]) (.seq z32_6 z32_15)
def z32_0:LC:=.seq z32_1 z32_4
def z32:LC:=.seq (.stm [0,1,4] [sd 4 (.zero [.int .i64 0,.int .i64 0,.nils]),kM 5 (ki 0)]) z32_0
theorem jkn:jad Tryz.prog eqs0 189 z32 [.c 4 true 3,.t 5] 34=true:=by kernel_rfl
def z33_4:LC:=.seq (.stm [10] [sd 45 (.load true 3 11),sn (.store 3 10 45)]) .ret
def z33_2:LC:=.seq (.stm [1,2,3,5,9,10,11,44] [kM 24 12,sd 25 (.un .not 24),kM 26 25,.g 26 false [kM 27 1,sd 28 (.lt 27 (ki 0))] 29 kt 28,kM 30 29,.g 30 false [kM 31 2,kF 32 11 1,kL 33 1 32,sd 34 (.cmp .geq 31 33)] 35 kt 34,kM 36 35,.g 36 false [kM 37 1,kM 38 2,sd 39 (.cmp .gtr 37 38)] 40 kt 39,kM 41 40,.g 41 false [kM 42 3,sd 43 (.eq 42 (ki 0))] 44 kt 43]) (.cond 44 z33_4 .skip)
def z33_12:LC:=.seq (.stm [1,2,3,5,9,10,11,14,59] [kM 57 14,kM 58 2,sd 59 (.cmp .leq 57 58)]) (.cond 59 .skip (.exit 0))
def z33_21:LC:=.seq (.stm [1,2,3,5,9,10,11,14] [kM 76 15,sd 77 (.load true 3 5),kM 78 16,sd 79 (.call 127 [77,78]),sd 80 (.cpy .cell 76 79)]) (.exit 1)
def z33_19:LC:=.seq (.stm [1,2,3,5,9,10,11,14,15,16,75] [kM 68 16,kM 69 1,sd 70 (.cmp .geq 68 69),kM 71 70,.g 71 true [kM 72 16,kM 73 2,sd 74 (.cmp .leq 72 73)] 75 74 kf]) (.cond 75 z33_21 .skip)
def z33_18:LC:=.seq (.stm [1,2,3,5,9,10,11,14,15,16] [kM 65 14,kM 66 3,sd 67 (.add 65 66),kM 16 67]) z33_19
def z33_30:LC:=.seq (.stm [1,2,3,5,9,10,11,14,15,17,82,83] [kM 85 83,kM 17 85]) (.stm [1,2,3,5,9,10,11,14,15,82,83] [kM 86 15,kM 87 17,sd 88 (.load true 4 9),sd 89 (.call 203 [88]),sd 90 (.ixS 6 86 87),sn (.store 6 90 89)])
def z33_28:LC:=.seq (.block 3 z33_30) (.stm [1,2,3,5,9,10,11,14,15,82,83] [sd 91 (.add 83 (ki 1)),kM 83 91])
def z33_25:LC:=.seq (.stm [1,2,3,5,9,10,11,14,15,82,83,84] [sd 84 (.lt 83 82)]) (.seq (.cond 84 .skip (.exit 2)) z33_28)
def z33_24:LC:=.loop z33_25
def z33_22:LC:=.seq (.stm [1,2,3,5,9,10,11,14,15,82,83] [kM 81 15,sd 82 (.len false 81),kM 83 (ki 0)]) (.block 2 z33_24)
def z33_16:LC:=.seq (.stm [1,2,3,5,9,10,11,14,15] [sd 62 (.load true 3 11),kM 63 14,sd 64 (.call 127 [62,63]),kM 15 64]) (.seq z33_18 z33_22)
def z33_14:LC:=.seq (.block 1 z33_16) (.stm [1,2,3,5,9,10,11,14] [kM 60 14,sd 61 (.add 60 (ki 1)),kM 14 61])
def z33_10:LC:=.loop (.seq z33_12 z33_14)
def z33_8:LC:=.seq (.stm [1,2,3,5,9,10,11,14] [kM 56 1,kM 14 56]) (.block 0 z33_10)
def z33_31:LC:=.seq (.stm [10] [sd 92 (.load true 3 11),sn (.store 3 10 92)]) .ret
def z33_6:LC:=.seq (.stm [1,2,3,5,9,10,11] [kM 50 13,sd 51 (.un .neg 50),kM 52 3,kM 53 13,sd 54 (.mm false 52 53),sd 55 (.mm true 51 54),kM 3 55]) (.seq z33_8 z33_31)
def z33_5:LC:=.seq (.stm [1,2,3,5,9,10,11,13] [kM 46 2,kM 47 1,sd 48 (.sub 46 47),sd 49 (.add 48 (ki 1)),kM 13 49]) z33_6
def z33_0:LC:=.seq (.stm [1,2,3,5,9,10,11,12] [sd 19 (.load true 3 5),sd 20 (.load true 4 9),sd 21 (.call 205 [19,20]),kM 18 21,sd 22 (.ext 18 0),sd 23 (.ext 18 1),sd 11 (.zero [.int .i64 0,.int .i64 0,.nils]),sn (.store 3 11 22),kM 12 23]) (.seq z33_2 z33_5)
def z33:LC:=.seq (.stm [1,2,3,5,9,10] [sd 5 (.box 0),sd 9 (.box 4),sd 10 (.zero [.int .i64 0,.int .i64 0,.nils])]) z33_0
theorem jgo:jad Tryz.prog eqs0 196 z33 [.c 10 true 3] 93=true:=by kernel_rfl
def z34_3:LC:=.seq (.stm [4,5] [sd 22 (.build [.int .i64 0,.int .i64 0,.nils] []),sn (.store 3 4 22),kM 5 (ki 1)]) .ret
def z34_1:LC:=.seq (.stm [0,1,4,21] [kM 8 0,sd 9 (.lt 8 (ki 1)),kM 10 9,.g 10 false [kM 11 0,sd 12 (.cmp .gtr 11 (ki 80))] 13 kt 12,kM 14 13,.g 14 false [kM 15 1,sd 16 (.lt 15 (ki 1))] 17 kt 16,kM 18 17,.g 18 false [kM 19 1,sd 20 (.cmp .gtr 19 (ki 24))] 21 kt 20]) (.cond 21 z34_3 .skip)
def z34_10:LC:=.seq (.stm [0,1,4,6,7,26] [kM 24 7,kM 25 1,sd 26 (.lt 24 25)]) (.cond 26 .skip (.exit 0))
def z34_13:LC:=.block 1 (.stm [0,1,4,6,7] [kM 29 6,kM 30 0,sd 31 (.build [.int .u32 0,.int .u32 0,.int .u8 0,.int .u16 0] []),sd 32 (.call 97 [30,31]),sd 33 (.bslice (.rows .cell) [32]),sd 34 (.app (.rows .cell) 29 33),kM 6 34])
def z34_12:LC:=.seq z34_13 (.stm [0,1,4,6,7] [kM 27 7,sd 28 (.add 27 (ki 1)),kM 7 28])
def z34_8:LC:=.loop (.seq z34_10 z34_12)
def z34_14:LC:=.seq (.stm [4,5] [kM 35 6,sd 36 (.call 78 [35]),sn (.store 3 4 36),kM 5 (ki 0)]) .ret
def z34_5:LC:=.seq (.seq (.stm [0,1,4,6,7] [kM 7 (ki 0)]) (.block 0 z34_8)) z34_14
def z34_4:LC:=.seq (.stm [0,1,4,6] [sd 23 (.bslice (.rows .cell) []),kM 6 23]) z34_5
def z34_0:LC:=.seq z34_1 z34_4
def z34:LC:=.seq (.stm [0,1,4] [sd 4 (.zero [.int .i64 0,.int .i64 0,.nils]),kM 5 (ki 0)]) z34_0
theorem jmo:jad Tryz.prog eqs0 45 z34 [.c 4 true 3,.t 5] 37=true:=by kernel_rfl
def z35_11:LC:=.seq (.stm [0,2,3,4,9,10] [kM 13 0,kM 14 4,sd 15 (.ixS 1 13 14),kL 16 1 15,sd 17 (.len false 16),kF 18 3 0,sn (.store 1 18 17)]) (.reg [0,2,3,9,10] [kR 0 19 (.fa 3 2),kR 1 20 (.ld 1 19),kR 2 21 (.mov 0),kR 3 22 (.mov 4),kR 4 23 (.ixS 1 21 22),kR 5 24 (.ld 1 23),⟨6,some 25,none,.app .cell 20 24,false,true⟩,kR 7 26 (.fa 3 2),⟨8,none,none,.store 1 26 25,false,true⟩])
def z35_9:LC:=.block 1 (.seq (.stm [0,2,3,4,9,10] [kM 12 10,kM 4 12]) z35_11)
def z35_8:LC:=.seq z35_9 (.stm [0,2,3,9,10] [sd 27 (.add 10 (ki 1)),kM 10 27])
def z35_5:LC:=.seq (.stm [0,2,3,9,10,11] [sd 11 (.lt 10 9)]) (.seq (.cond 11 .skip (.exit 0)) z35_8)
def z35_4:LC:=.loop z35_5
def z35_2:LC:=.seq (.stm [0,2,3,9,10] [kM 8 0,sd 9 (.len false 8),kM 10 (ki 0)]) (.block 0 z35_4)
def z35_12:LC:=.seq (.stm [2] [sd 28 (.load true 3 3),sn (.store 3 2 28)]) .ret
def z35_0:LC:=.seq (.stm [0,2,3] [kM 5 0,sd 6 (.len false 5),sd 7 (.build [.int .i64 0,.int .i64 0,.nils] [(1,1,6)]),sd 3 (.zero [.int .i64 0,.int .i64 0,.nils]),sn (.store 3 3 7)]) (.seq z35_2 z35_12)
def z35:LC:=.seq (.stm [0,2] [sd 2 (.zero [.int .i64 0,.int .i64 0,.nils])]) z35_0
theorem jo4:jad Tryz.prog eqs0 78 z35 [.c 2 true 3] 29=true:=by kernel_rfl
def z36_1:LC:=.seq (.stm [1,35] [kF 7 1 0,kL 8 1 7,sd 9 (.lt 8 (ki 1)),kM 10 9,.g 10 false [kF 11 1 0,kL 12 1 11,sd 13 (.cmp .gtr 12 (ki 80))] 14 kt 13,kM 15 14,.g 15 false [kF 16 1 1,kL 17 1 16,sd 18 (.lt 17 (ki 1))] 19 kt 18,kM 20 19,.g 20 false [kF 21 1 1,kL 22 1 21,sd 23 (.cmp .gtr 22 (ki 24))] 24 kt 23,kM 25 24,.g 25 false [kF 26 1 2,kL 27 1 26,sd 28 (.len false 27),kF 29 1 0,kL 30 1 29,kF 31 1 1,kL 32 1 31,sd 33 (.ari .mul false 30 32),sd 34 (.cmp .neq 28 33)] 35 kt 34]) (.cond 35 (.seq (.stm [2,3] [kM 2 kn,kM 3 kf]) .ret) .skip)
def z36_10:LC:=.seq (.stm [1,4,5,40] [kM 37 5,kF 38 1 1,kL 39 1 38,sd 40 (.lt 37 39)]) (.cond 40 .skip (.exit 0))
def z36_16:LC:=.seq (.stm [1,4,5,6,60] [kM 58 6,sd 59 (.call 85 [58]),sd 60 (.un .not 59)]) (.cond 60 (.seq (.stm [2,3] [kM 2 kn,kM 3 kf]) .ret) .skip)
def z36_15:LC:=.seq z36_16 (.stm [1,4,5] [kM 61 4,kM 62 6,sd 63 (.bslice (.rows .cell) [62]),sd 64 (.app (.rows .cell) 61 63),kM 4 64])
def z36_14:LC:=.seq (.stm [1,4,5,6] [kF 43 1 2,kL 44 1 43,kM 45 5,kF 46 1 0,kL 47 1 46,sd 48 (.ari .mul false 45 47),kM 49 5,kF 50 1 0,kL 51 1 50,sd 52 (.ari .mul false 49 51),kF 53 1 0,kL 54 1 53,sd 55 (.add 52 54),sd 56 (.sl false 6 44 (some 48) (some 55) none),sd 57 (.call 84 [56]),kM 6 57]) z36_15
def z36_12:LC:=.seq (.block 1 z36_14) (.stm [1,4,5] [kM 41 5,sd 42 (.add 41 (ki 1)),kM 5 42])
def z36_8:LC:=.loop (.seq z36_10 z36_12)
def z36_5:LC:=.seq (.seq (.stm [1,4,5] [kM 5 (ki 0)]) (.block 0 z36_8)) (.seq (.stm [2,3] [kM 65 4,kM 2 65,kM 3 kt]) .ret)
def z36_4:LC:=.seq (.stm [1,4] [sd 36 (.bslice (.rows .cell) []),kM 4 36]) z36_5
def z36_0:LC:=.seq z36_1 z36_4
def z36:LC:=.seq (.stm [1] [sd 1 (.box 0),kM 2 kn,kM 3 kf]) z36_0
theorem jko:jad Tryz.prog eqs0 36 z36 [.t 2,.t 3] 66=true:=by kernel_rfl
def z37_10:LC:=.seq (.stm [3,5,6,10,11] [kM 13 11,kM 6 13]) (.stm [3,5,10,11] [kM 14 5,kM 15 6,sd 16 (.load true 4 3),sd 17 (.call 132 [16]),sd 18 (.ixS 6 14 15),sn (.store 6 18 17)])
def z37_8:LC:=.seq (.block 1 z37_10) (.stm [3,5,10,11] [sd 19 (.add 11 (ki 1)),kM 11 19])
def z37_5:LC:=.seq (.stm [3,5,10,11,12] [sd 12 (.lt 11 10)]) (.seq (.cond 12 .skip (.exit 0)) z37_8)
def z37_4:LC:=.loop z37_5
def z37_2:LC:=.seq (.stm [3,5,10,11] [kM 9 5,sd 10 (.len false 9),kM 11 (ki 0)]) (.block 0 z37_4)
def z37_0:LC:=.seq (.stm [3,5] [kM 7 0,sd 8 (.mksl .cell 20 7 7),kM 5 8]) (.seq z37_2 (.seq (.stm [4] [kM 20 5,kM 4 20]) .ret))
def z37:LC:=.seq (.stm [0,3] [sd 3 (.box 1),kM 4 kn]) z37_0
theorem jeD:jad Tryz.prog eqs0 97 z37 [.t 4] 21=true:=by kernel_rfl
end
section
open Go.RowKit
set_option maxRecDepth 100000
def z38_10:LC:=.seq (.stm [0,5,6,18] [kM 9 0,kM 10 3,sd 11 (.ixV 9 10),sd 12 (.lt 11 (k8 33)),kM 13 12,.g 13 false [kM 14 0,kM 15 3,sd 16 (.ixV 14 15),sd 17 (.cmp .gtr 16 (k8 126))] 18 kt 17]) (.cond 18 (.seq (.stm [2] [kM 2 kf]) .ret) .skip)
def z38_7:LC:=.seq (.block 1 (.seq (.stm [0,3,5,6] [kM 8 6,kM 3 8]) z38_10)) (.stm [0,5,6] [sd 19 (.add 6 (ki 1)),kM 6 19])
def z38_4:LC:=.seq (.stm [0,5,6,7] [sd 7 (.lt 6 5)]) (.seq (.cond 7 .skip (.exit 0)) z38_7)
def z38_3:LC:=.loop z38_4
def z38_1:LC:=.seq (.stm [0,5,6] [kM 4 0,sd 5 (.len true 4),kM 6 (ki 0)]) (.block 0 z38_3)
def z38_13:LC:=.seq (.stm [2] [kM 20 0,sd 21 (.len true 20),sd 22 (.cmp .geq 21 (ki 1)),kM 23 22,.g 23 true [kM 24 0,sd 25 (.len true 24),sd 26 (.cmp .leq 25 (ki 64))] 27 26 kf,kM 2 27]) .ret
def z38_0:LC:=.seq z38_1 z38_13
def z38:LC:=.seq (.stm [0] [kM 2 kf]) z38_0
theorem jfP:jad Tryz.prog eqs0 128 z38 [.t 2] 28=true:=by kernel_rfl
def z39_1:LC:=.seq (.stm [0,1,13] [kM 11 1,sd 12 (.len false 11),sd 13 (.cmp .gtr 12 (ki 16))]) (.cond 13 (.seq (.stm [4] [kM 4 kf]) .ret) .skip)
def z39_14:LC:=.seq (.stm [0,1,14,15,16,30] [kM 21 6,sd 22 (.call 128 [21]),sd 23 (.un .not 22),kM 24 23,.g 24 false [kM 25 1,kM 26 5,sd 27 (.sl false 1 25 none (some 26) none),kM 28 6,sd 29 (.call 129 [27,28])] 30 kt 29]) (.cond 30 (.seq (.stm [4] [kM 4 kf]) .ret) .skip)
def z39_13:LC:=.seq (.stm [0,1,5,6,14,15,16] [kM 18 16,sd 19 (.ixS 1 14 16),kL 20 1 19,kM 5 18,kM 6 20]) z39_14
def z39_11:LC:=.seq (.block 1 z39_13) (.stm [0,1,14,15,16] [sd 31 (.add 16 (ki 1)),kM 16 31])
def z39_8:LC:=.seq (.stm [0,1,14,15,16,17] [sd 17 (.lt 16 15)]) (.seq (.cond 17 .skip (.exit 0)) z39_11)
def z39_7:LC:=.loop z39_8
def z39_5:LC:=.seq (.stm [0,1,14,15,16] [kM 14 1,sd 15 (.len false 14),kM 16 (ki 0)]) (.block 0 z39_7)
def z39_32:LC:=.seq (.stm [1,7,10,32,33,34,54] [kM 52 10,kM 53 7,sd 54 (.cmp .gtr 52 53)]) (.cond 54 (.stm [1,7,32,33,34] [kM 55 10,kM 7 55]) .skip)
def z39_29:LC:=.seq (.stm [1,7,10,32,33,34,51] [kM 42 10,kM 43 7,sd 44 (.add 43 (ki 1)),sd 45 (.cmp .gtr 42 44),kM 46 45,.g 46 false [kM 47 10,kM 48 1,sd 49 (.len false 48),sd 50 (.cmp .gtr 47 49)] 51 kt 50]) (.cond 51 (.seq (.stm [4] [kM 4 kf]) .ret) z39_32)
def z39_28:LC:=.seq (.stm [1,7,10,32,33,34] [kF 38 9 2,kF 39 38 3,kL 40 1 39,sd 41 (.conv .i64 false 40),kM 10 41]) z39_29
def z39_27:LC:=.seq (.stm [1,7,9,32,33,34] [sd 36 (.ixS 6 32 34),sd 37 (.load true 6 36),sd 9 (.zero [.int .i32 0,.int .u8 0,.int .u32 0,.int .u32 0,.int .u8 0,.int .u16 0]),sn (.store 6 9 37)]) z39_28
def z39_25:LC:=.seq (.block 3 z39_27) (.stm [1,7,32,33,34] [sd 56 (.add 34 (ki 1)),kM 34 56])
def z39_22:LC:=.seq (.stm [1,7,32,33,34,35] [sd 35 (.lt 34 33)]) (.seq (.cond 35 .skip (.exit 2)) z39_25)
def z39_21:LC:=.loop z39_22
def z39_19:LC:=.seq (.stm [1,7,32,33,34] [kM 32 0,sd 33 (.len false 32),kM 34 (ki 0)]) (.block 2 z39_21)
def z39_34:LC:=.seq (.stm [4] [kM 57 7,kM 58 1,sd 59 (.len false 58),sd 60 (.eq 57 59),kM 4 60]) .ret
def z39_4:LC:=.seq z39_5 (.seq (.stm [0,1,7] [kM 7 (ki 0)]) (.seq z39_19 z39_34))
def z39_0:LC:=.seq z39_1 z39_4
def z39:LC:=.seq (.stm [0,1] [kM 4 kf]) z39_0
theorem jgz:jad Tryz.prog eqs0 93 z39 [.t 4] 61=true:=by kernel_rfl
def z40_15:LC:=.seq (.stm [1,6,7,8,9,14,15,46] [kM 30 9,sd 31 (.lt 30 (ki 1)),kM 32 31,.g 32 false [kM 33 9,kM 34 1,sd 35 (.len false 34),sd 36 (.cmp .gtr 33 35)] 37 kt 36,kM 38 37,.g 38 false [kM 39 1,kM 40 9,sd 41 (.sub 40 (ki 1)),sd 42 (.ixS 1 39 41),kL 43 1 42,sd 44 (.call 128 [43]),sd 45 (.un .not 44)] 46 kt 45]) (.cond 46 (.exit 1) .skip)
def z40_21:LC:=.seq (.stm [1,6,7,8,9,10,14,15] [kM 56 7,sd 57 (.len false 56),kM 10 57]) (.stm [1,6,7,8,10,14,15] [kM 58 7,kM 59 1,kM 60 9,sd 61 (.sub 60 (ki 1)),sd 62 (.ixS 1 59 61),kL 63 1 62,sd 64 (.bslice .str [63]),sd 65 (.app .str 58 64),kM 7 65])
def z40_19:LC:=.seq (.stm [1,6,7,8,9,10,14,15,55] [kM 54 10,sd 55 (.lt 54 (ki 0))]) (.cond 55 z40_21 .skip)
def z40_18:LC:=.seq z40_19 (.stm [1,6,7,14,15] [kM 66 6,kM 67 8,kM 68 10,sd 69 (.add 68 (ki 1)),sd 70 (.conv .u16 true 69),sd 71 (.ixS 6 66 67),kF 72 71 2,kF 73 72 3,sn (.store 1 73 70)])
def z40_17:LC:=.seq (.stm [1,6,7,8,9,10,14,15] [kM 47 7,kM 48 1,kM 49 9,sd 50 (.sub 49 (ki 1)),sd 51 (.ixS 1 48 50),kL 52 1 51,sd 53 (.call 157 [47,52]),kM 10 53]) z40_18
def z40_13:LC:=.seq (.stm [1,6,7,8,9,14,15] [kM 25 6,kM 26 8,sd 27 (.ixS 6 25 26),kF 28 27 2,kF 29 28 3,sn (.store 1 29 (.c (.int .u16 0)))]) (.seq z40_15 z40_17)
def z40_12:LC:=.seq (.stm [1,6,7,8,9,14,15] [kM 18 6,kM 19 8,sd 20 (.ixS 6 18 19),kF 21 20 2,kF 22 21 3,kL 23 1 22,sd 24 (.conv .i64 false 23),kM 9 24]) z40_13
def z40_10:LC:=.block 1 (.seq (.stm [1,6,7,8,14,15] [kM 17 15,kM 8 17]) z40_12)
def z40_9:LC:=.seq z40_10 (.stm [1,6,7,14,15] [sd 74 (.add 15 (ki 1)),kM 15 74])
def z40_6:LC:=.seq (.stm [1,6,7,14,15,16] [sd 16 (.lt 15 14)]) (.seq (.cond 16 .skip (.exit 0)) z40_9)
def z40_5:LC:=.loop z40_6
def z40_3:LC:=.seq (.stm [1,6,7,14,15] [kM 13 6,sd 14 (.len false 13),kM 15 (ki 0)]) (.block 0 z40_5)
def z40_2:LC:=.seq z40_3 (.seq (.stm [4,5] [kM 75 6,kM 76 7,kM 4 75,kM 5 76]) .ret)
def z40_0:LC:=.seq (.stm [1,6] [kM 11 0,sd 12 (.call 42 [11]),kM 6 12]) (.seq (.stm [1,6,7] [kM 7 kn]) z40_2)
def z40:LC:=.seq (.stm [0,1] [kM 4 kn,kM 5 kn]) z40_0
theorem jgA:jad Tryz.prog eqs0 192 z40 [.t 4,.t 5] 77=true:=by kernel_rfl
def z41_0:LC:=.seq (.stm [4] [kM 5 0,kM 6 1,sd 7 (.call 157 [5,6]),sd 8 (.cmp .geq 7 (ki 0)),kM 4 8]) .ret
def z41:LC:=.seq (.stm [0,1] [kM 4 kf]) z41_0
theorem jbH:jad Tryz.prog eqs0 129 z41 [.t 4] 9=true:=by kernel_rfl
def z42_10:LC:=.seq (.stm [0,1,5,7,8,16] [kM 11 1,kM 12 0,kM 13 5,sd 14 (.ixS 1 12 13),kL 15 1 14,sd 16 (.eq 11 15)]) (.cond 16 (.seq (.stm [4] [kM 17 5,kM 4 17]) .ret) .skip)
def z42_8:LC:=.block 1 (.seq (.stm [0,1,5,7,8] [kM 10 8,kM 5 10]) z42_10)
def z42_7:LC:=.seq z42_8 (.stm [0,1,7,8] [sd 18 (.add 8 (ki 1)),kM 8 18])
def z42_4:LC:=.seq (.stm [0,1,7,8,9] [sd 9 (.lt 8 7)]) (.seq (.cond 9 .skip (.exit 0)) z42_7)
def z42_3:LC:=.loop z42_4
def z42_1:LC:=.seq (.stm [0,1,7,8] [kM 6 0,sd 7 (.len false 6),kM 8 (ki 0)]) (.block 0 z42_3)
def z42_0:LC:=.seq z42_1 (.seq (.stm [4] [sd 4 (.mov (ki (-1)))]) .ret)
def z42:LC:=.seq (.stm [0,1] [kM 4 (ki 0)]) z42_0
theorem ja1:jad Tryz.prog eqs0 157 z42 [.t 4] 19=true:=by kernel_rfl
def z43_1:LC:=.seq (.stm [0,1,10] [kM 6 0,sd 7 (.len false 6),kM 8 1,sd 9 (.len false 8),sd 10 (.cmp .neq 7 9)]) (.cond 10 (.seq (.stm [4] [kM 4 kf]) .ret) .skip)
def z43_14:LC:=.seq (.reg [0,1,12,13,24] [kR 0 16 (.mov 0),kR 1 17 (.mov 5),kR 2 18 (.ixS 1 16 17),kR 3 19 (.ld 1 18),kR 4 20 (.mov 1),kR 5 21 (.mov 5),kR 6 22 (.ixS 1 20 21),kR 7 23 (.ld 1 22),kR 8 24 (.cmp .neq 19 23)]) (.cond 24 (.seq (.stm [4] [kM 4 kf]) .ret) .skip)
def z43_12:LC:=.block 1 (.seq (.stm [0,1,5,12,13] [kM 15 13,kM 5 15]) z43_14)
def z43_11:LC:=.seq z43_12 (.stm [0,1,12,13] [sd 25 (.add 13 (ki 1)),kM 13 25])
def z43_8:LC:=.seq (.stm [0,1,12,13,14] [sd 14 (.lt 13 12)]) (.seq (.cond 14 .skip (.exit 0)) z43_11)
def z43_7:LC:=.loop z43_8
def z43_5:LC:=.seq (.stm [0,1,12,13] [kM 11 0,sd 12 (.len false 11),kM 13 (ki 0)]) (.block 0 z43_7)
def z43_0:LC:=.seq z43_1 (.seq z43_5 (.seq (.stm [4] [kM 4 kt]) .ret))
def z43:LC:=.seq (.stm [0,1] [kM 4 kf]) z43_0
theorem jco:jad Tryz.prog eqs0 174 z43 [.t 4] 26=true:=by kernel_rfl
def z44_1:LC:=.seq (.stm [0,11] [kM 4 0,sd 5 (.len true 4),sd 6 (.eq 5 (ki 0)),kM 7 6,.g 7 false [kM 8 0,sd 9 (.len true 8),sd 10 (.cmp .gtr 9 (ki 64))] 11 kt 10]) (.cond 11 (.seq (.stm [2] [kM 2 kf]) .ret) .skip)
def z44_9:LC:=.seq (.stm [0,3,15] [kM 12 3,kM 13 0,sd 14 (.len true 13),sd 15 (.lt 12 14)]) (.cond 15 .skip (.exit 0))
def z44_13:LC:=.seq (.stm [0,3,27] [kM 18 0,kM 19 3,sd 20 (.ixV 18 19),sd 21 (.cmp .leq 20 (k8 32)),kM 22 21,.g 22 false [kM 23 0,kM 24 3,sd 25 (.ixV 23 24),sd 26 (.cmp .geq 25 (k8 127))] 27 kt 26]) (.cond 27 (.seq (.stm [2] [kM 2 kf]) .ret) .skip)
def z44_11:LC:=.seq (.block 1 z44_13) (.stm [0,3] [kM 16 3,sd 17 (.add 16 (ki 1)),kM 3 17])
def z44_7:LC:=.loop (.seq z44_9 z44_11)
def z44_4:LC:=.seq (.seq (.stm [0,3] [kM 3 (ki 0)]) (.block 0 z44_7)) (.seq (.stm [2] [kM 2 kt]) .ret)
def z44_0:LC:=.seq z44_1 z44_4
def z44:LC:=.seq (.stm [0] [kM 2 kf]) z44_0
theorem jmC:jad Tryz.prog eqs0 119 z44 [.t 2] 28=true:=by kernel_rfl
def z45_5:LC:=.seq (.stm [0,1,5,9] [kM 6 5,kM 7 0,sd 8 (.len false 7),sd 9 (.lt 6 8)]) (.cond 9 .skip (.exit 0))
def z45_9:LC:=.seq (.stm [0,1,5,17] [kM 12 0,kM 13 5,sd 14 (.ixS 1 12 13),kL 15 1 14,kM 16 1,sd 17 (.eq 15 16)]) (.cond 17 (.seq (.stm [4] [kM 18 5,kM 4 18]) .ret) .skip)
def z45_7:LC:=.seq (.block 1 z45_9) (.stm [0,1,5] [kM 10 5,sd 11 (.add 10 (ki 1)),kM 5 11])
def z45_3:LC:=.loop (.seq z45_5 z45_7)
def z45_0:LC:=.seq (.seq (.stm [0,1,5] [kM 5 (ki 0)]) (.block 0 z45_3)) (.seq (.stm [4] [sd 4 (.mov (ki (-1)))]) .ret)
def z45:LC:=.seq (.stm [0,1] [kM 4 (ki 0)]) z45_0
theorem jfQ:jad Tryz.prog eqs0 122 z45 [.t 4] 19=true:=by kernel_rfl
def z46_2:LC:=.cond 22 (.seq (.stm [4] [sd 4 (.mov (.c (.str (bs []))))]) .ret) .skip
def z46_1:LC:=.seq (.stm [0,1,22] [kM 5 1,sd 6 (.eq 5 (.c (.int .u16 0))),kM 7 6,.g 7 false [kM 8 1,sd 9 (.conv .i64 false 8),kM 10 0,sd 11 (.len false 10),sd 12 (.cmp .gtr 9 11)] 13 kt 12,kM 14 13,.g 14 false [kM 15 0,kM 16 1,sd 17 (.ari .sub true 16 (.c (.int .u16 1))),sd 18 (.ixS 1 15 17),kL 19 1 18,sd 20 (.call 119 [19]),sd 21 (.un .not 20)] 22 kt 21]) z46_2
def z46_4:LC:=.seq (.stm [4] [kM 23 0,kM 24 1,sd 25 (.ari .sub true 24 (.c (.int .u16 1))),sd 26 (.ixS 1 23 25),kL 27 1 26,kM 4 27]) .ret
def z46_0:LC:=.seq z46_1 z46_4
def z46:LC:=.seq (.stm [0,1] [sd 4 (.mov (.c (.str (bs []))))]) z46_0
theorem jfR:jad Tryz.prog eqs0 121 z46 [.t 4] 28=true:=by kernel_rfl
def z47_1:LC:=.seq (.stm [0,1,10] [kM 8 1,sd 9 (.len false 8),sd 10 (.cmp .gtr 9 (ki 16))]) (.cond 10 (.seq (.stm [4] [kM 4 kf]) .ret) .skip)
def z47_15:LC:=.seq (.reg [0,1,5,6,18,19,34] [kR 0 22 (.mov 5),kR 1 23 (.mov 7),kR 2 24 (.ixS 6 22 23),kR 3 25 (.fa 24 2),kR 4 26 (.fa 25 3),kR 5 27 (.ld 1 26),kR 6 28 (.mov 0),kR 7 29 (.mov 7),kR 8 30 (.ixS 6 28 29),kR 9 31 (.fa 30 2),kR 10 32 (.fa 31 3),kR 11 33 (.ld 1 32),kR 12 34 (.cmp .neq 27 33)]) (.cond 34 (.seq (.stm [4] [kM 4 kf]) .ret) .skip)
def z47_14:LC:=.seq (.stm [0,1,5,6,7,18,19] [kM 21 19,kM 7 21]) z47_15
def z47_12:LC:=.seq (.block 1 z47_14) (.stm [0,1,5,6,18,19] [sd 35 (.add 19 (ki 1)),kM 19 35])
def z47_9:LC:=.seq (.stm [0,1,5,6,18,19,20] [sd 20 (.lt 19 18)]) (.seq (.cond 20 .skip (.exit 0)) z47_12)
def z47_8:LC:=.loop z47_9
def z47_6:LC:=.seq (.stm [0,1,5,6,18,19] [kM 17 0,sd 18 (.len false 17),kM 19 (ki 0)]) (.block 0 z47_8)
def z47_18:LC:=.seq (.stm [4] [kM 36 6,kM 37 1,sd 38 (.call 34 [36,37]),kM 4 38]) .ret
def z47_4:LC:=.seq (.stm [0,1,5,6] [kM 12 0,kM 13 1,sd 14 (.call 86 [12,13]),kM 11 14,sd 15 (.ext 11 0),sd 16 (.ext 11 1),kM 5 15,kM 6 16]) (.seq z47_6 z47_18)
def z47_0:LC:=.seq z47_1 z47_4
def z47:LC:=.seq (.stm [0,1] [kM 4 kf]) z47_0
theorem jjl:jad Tryz.prog eqs0 37 z47 [.t 4] 39=true:=by kernel_rfl
def z48_6:LC:=.seq (.stm [0,1,6,7,16] [kM 13 7,kM 14 0,sd 15 (.len false 14),sd 16 (.lt 13 15)]) (.cond 16 .skip (.exit 0))
def z48_12:LC:=.cond 34 (.stm [0,1,6,7] [kM 35 6,kM 36 8,sd 37 (.bslice .str [36]),sd 38 (.app .str 35 37),kM 6 38]) .skip
def z48_11:LC:=.seq (.stm [0,1,6,7,8,34] [kM 27 8,sd 28 (.cmp .neq 27 (.c (.str (bs [])))),kM 29 28,.g 29 true [kM 30 6,kM 31 8,sd 32 (.call 122 [30,31]),sd 33 (.lt 32 (ki 0))] 34 33 kf]) z48_12
def z48_10:LC:=.seq (.stm [0,1,6,7,8] [kM 19 1,kM 20 0,kM 21 7,sd 22 (.ixS 6 20 21),kF 23 22 2,kF 24 23 3,kL 25 1 24,sd 26 (.call 121 [19,25]),kM 8 26]) z48_11
def z48_8:LC:=.seq (.block 1 z48_10) (.stm [0,1,6,7] [kM 17 7,sd 18 (.add 17 (ki 1)),kM 7 18])
def z48_4:LC:=.loop (.seq z48_6 z48_8)
def z48_28:LC:=.cond 68 (.stm [0,1,6,9,43,44] [kM 69 9,kM 70 10,kM 71 6,kM 72 11,sd 73 (.call 122 [71,72]),sd 74 (.add 73 (ki 1)),sd 75 (.conv .u16 true 74),sd 76 (.ixS 6 69 70),kF 77 76 2,kF 78 77 3,sn (.store 1 78 75)]) .skip
def z48_27:LC:=.seq (.stm [0,1,6,9,10,11,43,44,68] [kM 67 11,sd 68 (.cmp .neq 67 (.c (.str (bs []))))]) z48_28
def z48_26:LC:=.seq (.stm [0,1,6,9,10,11,43,44] [kM 59 1,kM 60 0,kM 61 10,sd 62 (.ixS 6 60 61),kF 63 62 2,kF 64 63 3,kL 65 1 64,sd 66 (.call 121 [59,65]),kM 11 66]) z48_27
def z48_25:LC:=.seq (.stm [0,1,6,9,10,43,44] [kM 54 9,kM 55 10,sd 56 (.ixS 6 54 55),kF 57 56 2,kF 58 57 3,sn (.store 1 58 (.c (.int .u16 0)))]) z48_26
def z48_24:LC:=.seq (.stm [0,1,6,9,10,43,44] [kM 47 9,kM 48 10,kM 49 0,kM 50 10,sd 51 (.ixS 6 49 50),sd 52 (.load true 6 51),sd 53 (.ixS 6 47 48),sn (.store 6 53 52)]) z48_25
def z48_23:LC:=.seq (.stm [0,1,6,9,10,43,44] [kM 46 44,kM 10 46]) z48_24
def z48_21:LC:=.seq (.block 3 z48_23) (.stm [0,1,6,9,43,44] [sd 79 (.add 44 (ki 1)),kM 44 79])
def z48_18:LC:=.seq (.stm [0,1,6,9,43,44,45] [sd 45 (.lt 44 43)]) (.seq (.cond 45 .skip (.exit 2)) z48_21)
def z48_17:LC:=.loop z48_18
def z48_15:LC:=.seq (.stm [0,1,6,9,43,44] [kM 42 0,sd 43 (.len false 42),kM 44 (ki 0)]) (.block 2 z48_17)
def z48_14:LC:=.seq z48_15 (.seq (.stm [4,5] [kM 80 9,kM 81 6,kM 4 80,kM 5 81]) .ret)
def z48_13:LC:=.seq (.stm [0,1,6,9] [kM 39 0,sd 40 (.len false 39),sd 41 (.mksl .cell 20 40 40),kM 9 41]) z48_14
def z48_1:LC:=.seq (.seq (.stm [0,1,6,7] [kM 7 (ki 0)]) (.block 0 z48_4)) z48_13
def z48_0:LC:=.seq (.stm [0,1,6] [sd 12 (.bslice .str []),kM 6 12]) z48_1
def z48:LC:=.seq (.stm [0,1] [kM 4 kn,kM 5 kn]) z48_0
theorem jjm:jad Tryz.prog eqs0 86 z48 [.t 4,.t 5] 82=true:=by kernel_rfl
def z49_1:LC:=.seq (.stm [0,1,10] [kM 6 0,sd 7 (.len false 6),kM 8 1,sd 9 (.len false 8),sd 10 (.cmp .neq 7 9)]) (.cond 10 (.seq (.stm [4] [kM 4 kf]) .ret) .skip)
def z49_14:LC:=.seq (.reg [0,1,12,13,24] [kR 0 16 (.mov 0),kR 1 17 (.mov 5),kR 2 18 (.ixS 1 16 17),kR 3 19 (.ld 1 18),kR 4 20 (.mov 1),kR 5 21 (.mov 5),kR 6 22 (.ixS 1 20 21),kR 7 23 (.ld 1 22),kR 8 24 (.cmp .neq 19 23)]) (.cond 24 (.seq (.stm [4] [kM 4 kf]) .ret) .skip)
def z49_12:LC:=.block 1 (.seq (.stm [0,1,5,12,13] [kM 15 13,kM 5 15]) z49_14)
def z49_11:LC:=.seq z49_12 (.stm [0,1,12,13] [sd 25 (.add 13 (ki 1)),kM 13 25])
def z49_8:LC:=.seq (.stm [0,1,12,13,14] [sd 14 (.lt 13 12)]) (.seq (.cond 14 .skip (.exit 0)) z49_11)
def z49_7:LC:=.loop z49_8
def z49_5:LC:=.seq (.stm [0,1,12,13] [kM 11 0,sd 12 (.len false 11),kM 13 (ki 0)]) (.block 0 z49_7)
def z49_0:LC:=.seq z49_1 (.seq z49_5 (.seq (.stm [4] [kM 4 kt]) .ret))
def z49:LC:=.seq (.stm [0,1] [kM 4 kf]) z49_0
theorem jhb:jad Tryz.prog eqs0 34 z49 [.t 4] 26=true:=by kernel_rfl
end
end Go.Proofs.YtienkkicehmchaaGreatDoor
