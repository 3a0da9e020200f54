/- Texts of this claim, merged by a program of this claim: KBlank, KLaw18, KRdif. -/
import Derived.Test.YtcfkfgkndncanaaGreatDoorMa5
namespace Go.Proofs.YtcfkfgkndncanaaGreatDoor
set_option linter.unusedVariables false
set_option linter.unusedSimpArgs false
section
open Go.RowKit
set_option maxRecDepth 100000
def z94_0:LC:=.seq (.stm [0] [sd 1 (.build [.int .i64 0,.int .i32 0,.int .u8 0,.int .u8 0] []),sd 2 (.box 1),kM 0 2]) .ret
def z94:LC:=.seq (.stm [] [kM 0 (.c .nilptr)]) z94_0
theorem jlD:jaQ Tryz.prog eqs0 128 z94 [.t 0] 3=true:=by kernel_rfl
def z95_0:LC:=.seq (.stm [0] [sd 1 (.call 128 []),sd 2 (.build [.nilptr,.int .i64 0,.bool false,.int .u8 0,.bool false,.nils,.nils,.bool false] [(0,1,1)]),sd 3 (.box 2),kM 0 3]) .ret
def z95:LC:=.seq (.stm [] [kM 0 (.c .nilptr)]) z95_0
theorem jhy:jaQ Tryz.prog eqs0 120 z95 [.t 0] 4=true:=by kernel_rfl
def z96_5:LC:=.cond 15 .skip (.exit 0)
def z96_8:LC:=.seq (.stm [0,2,14] [kM 16 14,kM 2 16]) (.stm [0,14] [kM 17 0,kM 18 2,kM 19 2,sd 20 (.ari .rem false 19 (ki 8)),sd 21 (.eq 20 (ki 0)),kM 22 21,.g 22 true [kM 23 2,sd 24 (.cmp .gtr 23 (ki 0))] 25 24 kf,sd 26 (.nilck 17),kF 27 26 23,sd 28 (.ixA 80 1 27 18),sn (.store 1 28 25)])
def z96_7:LC:=.block 1 z96_8
def z96_6:LC:=.seq z96_7 (.stm [0,14] [sd 29 (.add 14 (ki 1)),kM 14 29])
def z96_4:LC:=.seq z96_5 z96_6
def z96_3:LC:=.seq (.stm [0,14,15] [sd 15 (.lt 14 (ki 80))]) z96_4
def z96_2:LC:=.loop z96_3
def z96_1:LC:=.block 0 z96_2
def z96_0:LC:=.seq (.stm [0,14] [kM 14 (ki 0)]) z96_1
def z96:LC:=.seq (.stm [0] [kM 3 0,kM 4 0,kM 5 0,sd 6 (.nilck 5),kF 7 6 8,kL 8 1 7,sd 9 (.sub 8 (ki 1)),sd 10 (.nilck 3),kF 11 10 17,sn (.store 1 11 (ki 0)),sd 12 (.nilck 4),kF 13 12 18,sn (.store 1 13 9)]) z96_0
theorem jdB:jaQ Tryz.prog eqs0 121 z96 [] 30=true:=by kernel_rfl
def z97_4:LC:=.seq (.stm [4,5] [kM 19 7,kM 4 (.c .nilptr),kM 5 19]) .ret
def z97_3:LC:=.cond 18 z97_4 .skip
def z97_2:LC:=.seq (.stm [0,1,6,7,18] [kM 17 7,sd 18 (.cmp .neq 17 (ki 0))]) z97_3
def z97_8:LC:=.seq (.stm [4,5] [kM 36 10,kM 4 36,kM 5 (ki 0)]) .ret
def z97_7:LC:=.seq (.stm [10] [kM 34 10,sd 35 (.call 121 [34])]) z97_8
def z97_6:LC:=.seq (.reg [10] [kR 0 26 (.mov 0),kR 1 27 (.mov 1),kR 2 28 (.load true 3 6),kR 3 29 (.load true 3 8),kR 4 30 (.build [.int .i64 0,.int .i64 0,.nils,.int .i64 0,.int .i64 0,.nils] [(0,3,28),(3,3,29)]),⟨5,some 31,none,.call 120 [],true,true⟩,kR 6 32 (.build ([.int .i64 0,.int .i64 0,.int .u32 0,.int .u32 0,.int .u8 0,.int .u16 0,.bool false,.int .i64 0,.int .i64 0,.int .i64 0,.int .i64 0,.nils,.int .i64 0,.int .i64 0,.nils,.int .i64 0,.bool false,.int .i64 0,.int .i64 0,.bool false,.bool false,.bool false,.int .u8 0]++List.replicate 80 (.bool false)++[.int .i64 0,.int .i64 0,.int .u32 0,.int .u32 0,.int .u8 0,.int .u16 0,.bool false,.str (bs []),.nils,.int .i32 0,.nilptr]) [(7,1,26),(8,1,27),(9,6,30),(19,1,kt),(113,1,31)]),kR 7 33 (.box 32),kR 8 10 (.mov 33)]) z97_7
def z97_5:LC:=.seq (.stm [0,1,6,8] [kM 21 0,kM 22 1,sd 23 (.call 119 [21,22]),kM 20 23,sd 24 (.ext 20 0),sd 25 (.ext 20 1),sd 8 (.zero [.int .i64 0,.int .i64 0,.nils]),sn (.store 3 8 24),kM 9 25]) z97_6
def z97_1:LC:=.seq z97_2 z97_5
def z97_0:LC:=.seq (.stm [0,1,6,7] [kM 12 0,kM 13 1,sd 14 (.call 119 [12,13]),kM 11 14,sd 15 (.ext 11 0),sd 16 (.ext 11 1),sd 6 (.zero [.int .i64 0,.int .i64 0,.nils]),sn (.store 3 6 15),kM 7 16]) z97_1
def z97:LC:=.seq (.stm [0,1] [kM 4 (.c .nilptr),kM 5 (ki 0)]) z97_0
theorem ji4:jaQ Tryz.prog eqs0 89 z97 [.t 4,.t 5] 37=true:=by kernel_rfl
def z98_0:LC:=.seq (.reg [2] [kR 0 3 (.mov 0),kR 1 4 (.mov 0),kR 2 5 (.nilck 4),kR 3 6 (.fa 5 15),kR 4 7 (.ld 1 6),kR 5 8 (.nilck 3),kR 6 9 (.fa 8 9),kR 7 10 (.ixA 2 3 9 7),kR 8 11 (.load true 3 10),⟨9,none,none,.store 3 2 11,false,true⟩]) .ret
def z98:LC:=.seq (.stm [0,2] [sd 2 (.zero [.int .i64 0,.int .i64 0,.nils])]) z98_0
theorem jd2:jaQ Tryz.prog eqs0 123 z98 [.c 2 true 3] 12=true:=by kernel_rfl
def z99_3:LC:=.seq (.stm [2] [sd 7 (.build [.int .i64 0,.int .i64 0,.nils,.int .i64 0,.int .i64 0,.bool false,.int .u8 0,.str (bs []),.nils] []),sn (.store 9 2 7)]) .ret
def z99_2:LC:=.cond 6 z99_3 .skip
def z99_1:LC:=.seq (.stm [0,2,6] [kM 5 0,sd 6 (.cmpN 0 false 5)]) z99_2
def z99_5:LC:=.seq (.reg [2] [kR 0 19 (.mov 0),kR 1 20 (.nilck 19),kR 2 21 (.fa 20 7),kR 3 22 (.ld 1 21),kR 4 23 (.mov 0),kR 5 24 (.nilck 23),kR 6 25 (.fa 24 8),kR 7 26 (.ld 1 25),kR 8 27 (.mov 3),kR 9 28 (.mov 0),kR 10 29 (.nilck 28),kR 11 30 (.fa 29 0),kR 12 31 (.fa 30 0),kR 13 32 (.ld 1 31),kR 14 33 (.mov 0),kR 15 34 (.nilck 33),kR 16 35 (.fa 34 0),kR 17 36 (.fa 35 1),kR 18 37 (.ld 1 36),kR 19 38 (.mov 0),kR 20 39 (.nilck 38),kR 21 40 (.fa 39 21),kR 22 41 (.ld 1 40),kR 23 42 (.mov 0),kR 24 43 (.nilck 42),kR 25 44 (.fa 43 22),kR 26 45 (.ld 1 44),kR 27 46 (.mov 0),kR 28 47 (.nilck 46),kR 29 48 (.fa 47 110),kR 30 49 (.ld 1 48),kR 31 50 (.mov 4),kR 32 51 (.build [.int .i64 0,.int .i64 0,.nils,.int .i64 0,.int .i64 0,.bool false,.int .u8 0,.str (bs []),.nils] [(0,1,22),(1,1,26),(2,1,27),(3,1,32),(4,1,37),(5,1,41),(6,1,45),(7,1,49),(8,1,50)]),⟨33,none,none,.store 9 2 51,false,true⟩]) .ret
def z99_4:LC:=.seq (.reg [0,2,3,4] [kR 0 9 (.mov 0),kR 3 12 (.mov 0),kR 4 13 (.nilck 12),kR 5 14 (.fa 13 111),kR 6 15 (.ld 1 14),⟨1,some 10,none,.call 123 [9],true,true⟩,kR 2 11 (.field 10 2 1 false),⟨7,some 16,none,.call 122 [11,15],false,true⟩,kR 8 8 (.mov 16),kR 9 17 (.ext 8 0),kR 10 18 (.ext 8 1),kR 11 3 (.mov 17),kR 12 4 (.mov 18)]) z99_5
def z99_0:LC:=.seq z99_1 z99_4
def z99:LC:=.seq (.stm [0,2] [sd 2 (.zero [.int .i64 0,.int .i64 0,.nils,.int .i64 0,.int .i64 0,.bool false,.int .u8 0,.str (bs []),.nils])]) z99_0
theorem jdq:jaQ Tryz.prog eqs0 90 z99 [.c 2 true 9] 52=true:=by kernel_rfl
def z100_4:LC:=.seq (.stm [4,5] [sd 16 (.build [.int .i64 0,.int .i64 0,.nils,.int .i64 0,.int .i64 0,.bool false,.int .u8 0,.str (bs []),.nils] []),kM 17 7,sn (.store 9 4 16),kM 5 17]) .ret
def z100_3:LC:=.cond 15 z100_4 .skip
def z100_2:LC:=.seq (.stm [4,6,7,15] [kM 14 7,sd 15 (.cmp .neq 14 (ki 0))]) z100_3
def z100_5:LC:=.seq (.stm [4,5] [kM 18 6,sd 19 (.call 90 [18]),sn (.store 9 4 19),kM 5 (ki 0)]) .ret
def z100_1:LC:=.seq z100_2 z100_5
def z100_0:LC:=.seq (.stm [4,6,7] [kM 9 0,kM 10 1,sd 11 (.call 89 [9,10]),kM 8 11,sd 12 (.ext 8 0),sd 13 (.ext 8 1),kM 6 12,kM 7 13]) z100_1
def z100:LC:=.seq (.stm [0,1,4] [sd 4 (.zero [.int .i64 0,.int .i64 0,.nils,.int .i64 0,.int .i64 0,.bool false,.int .u8 0,.str (bs []),.nils]),kM 5 (ki 0)]) z100_0
theorem jey:jaQ Tryz.prog eqs0 48 z100 [.c 4 true 9,.t 5] 20=true:=by kernel_rfl
def z101_4:LC:=.seq (.stm [4,5] [sd 16 (.build [.int .i64 0,.int .i64 0,.nils,.int .i64 0,.int .i64 0,.bool false,.int .u8 0,.str (bs []),.nils] []),kM 17 7,sn (.store 9 4 16),kM 5 17]) .ret
def z101_3:LC:=.cond 15 z101_4 .skip
def z101_2:LC:=.seq (.stm [0,1,4,6,7,15] [kM 14 7,sd 15 (.cmp .neq 14 (ki 0))]) z101_3
def z101_5:LC:=.seq (.stm [4,5] [kM 18 0,kM 19 1,kF 20 6 2,kL 21 1 20,sd 22 (.build [.int .i64 0,.int .i64 0,.nils,.int .i64 0,.int .i64 0,.bool false,.int .u8 0,.str (bs []),.nils] [(0,1,18),(1,1,19),(2,1,21)]),sn (.store 9 4 22),kM 5 (ki 0)]) .ret
def z101_1:LC:=.seq z101_2 z101_5
def z101_0:LC:=.seq (.stm [0,1,4,6,7] [kM 9 0,kM 10 1,sd 11 (.call 95 [9,10]),kM 8 11,sd 12 (.ext 8 0),sd 13 (.ext 8 1),sd 6 (.zero [.int .i64 0,.int .i64 0,.nils]),sn (.store 3 6 12),kM 7 13]) z101_1
def z101:LC:=.seq (.stm [0,1,4] [sd 4 (.zero [.int .i64 0,.int .i64 0,.nils,.int .i64 0,.int .i64 0,.bool false,.int .u8 0,.str (bs []),.nils]),kM 5 (ki 0)]) z101_0
theorem jhz:jaQ Tryz.prog eqs0 55 z101 [.c 4 true 9,.t 5] 23=true:=by kernel_rfl
end
section
open Go.RowKit
set_option maxRecDepth 100000
def z102_7:LC:=.cond 16 .skip (.exit 0)
def z102_9:LC:=.seq (.stm [0,2,3,5,6,14] [sd 17 (.ext 15 1),sd 18 (.ext 15 2),kM 5 17,kM 6 18]) (.stm [0,2,3,14] [kF 19 3 2,kL 20 1 19,kM 21 5,kM 22 6,sd 23 (.ixS 6 20 21),kF 24 23 0,sn (.store 1 24 22)])
def z102_8:LC:=.block 1 z102_9
def z102_6:LC:=.seq z102_7 z102_8
def z102_5:LC:=.seq (.stm [0,2,3,14,15,16] [sd 15 (.nxt 14),sd 16 (.ext 15 0)]) z102_6
def z102_4:LC:=.loop z102_5
def z102_3:LC:=.block 0 z102_4
def z102_2:LC:=.seq (.stm [0,2,3,14] [kM 13 0,sd 14 (.rng 13)]) z102_3
def z102_11:LC:=.seq (.stm [2] [sd 29 (.load true 9 3),sn (.store 9 2 29)]) .ret
def z102_10:LC:=.seq (.stm [2,3] [kM 25 0,sd 26 (.len true 25),sd 27 (.sub 26 (ki 1)),kF 28 3 4,sn (.store 1 28 27)]) z102_11
def z102_1:LC:=.seq z102_2 z102_10
def z102_0:LC:=.seq (.stm [0,2,3] [kM 8 0,sd 9 (.len true 8),sd 10 (.call 55 [(ki 1),9]),kM 7 10,sd 11 (.ext 7 0),sd 12 (.ext 7 1),sd 3 (.zero [.int .i64 0,.int .i64 0,.nils,.int .i64 0,.int .i64 0,.bool false,.int .u8 0,.str (bs []),.nils]),sn (.store 9 3 11),kM 4 12]) z102_1
def z102:LC:=.seq (.stm [0,2] [sd 2 (.zero [.int .i64 0,.int .i64 0,.nils,.int .i64 0,.int .i64 0,.bool false,.int .u8 0,.str (bs []),.nils])]) z102_0
theorem jpN:jaQ Tryz.prog eqs0 21 z102 [.c 2 true 9] 30=true:=by kernel_rfl
def z103_2:LC:=.seq (.stm [0] [kM 17 2,sd 18 (.eq 17 (ki 0)),kM 19 18,.g 19 true [kM 20 4,sd 21 (.eq 20 (ki 0))] 22 21 kf,kM 23 22,.b 23 true [kM 24 1,sd 25 (.bslice (.int .u8) [(k8 6),(k8 1),(k8 8),(k8 1),(k8 2),(k8 1),(k8 0),(k8 0),(k8 0),(k8 0),(k8 100)]),sd 26 (.call 14 [24,25])] 27 26 kf,kM 28 27,.b 28 true [kM 29 3,sd 30 (.bslice (.int .u8) [(k8 7),(k8 1),(k8 0),(k8 1)]),sd 31 (.call 14 [29,30])] 32 31 kf,kM 0 32]) .ret
def z103_1:LC:=.seq (.stm [1,2,3,4] [sd 12 (.call 21 [(.c (.str (bs [97,98,99])))]),sd 13 (.call 21 [(.c (.str (bs [98,98,99])))]),sd 14 (.call 16 [12,13]),kM 11 14,sd 15 (.ext 11 0),sd 16 (.ext 11 1),kM 3 15,kM 4 16]) z103_2
def z103_0:LC:=.seq (.stm [1,2] [sd 6 (.call 21 [(.c (.str (bs [97,98,99])))]),sd 7 (.call 21 [(.c (.str (bs [98,99,100])))]),sd 8 (.call 16 [6,7]),kM 5 8,sd 9 (.ext 5 0),sd 10 (.ext 5 1),kM 1 9,kM 2 10]) z103_1
def z103:LC:=.seq (.stm [] [kM 0 kf]) z103_0
theorem jlN:jaQ Tryz.prog eqs0 8 z103 [.t 0] 33=true:=by kernel_rfl
end
section
open Go.RowKit
set_option maxRecDepth 100000
def z104_7:LC:=.cond 15 .skip (.exit 0)
def z104_6:LC:=.seq (.stm [1,2,5,6,15] [kM 12 6,kF 13 2 1,kL 14 1 13,sd 15 (.lt 12 14)]) z104_7
def z104_17:LC:=.cond 36 .skip (.exit 2)
def z104_25:LC:=.cond 60 (.stm [1,2,5,6,7,34,35] [kM 61 7,kM 62 8,kM 63 10,sd 64 (.add 63 (ki 1)),sd 65 (.conv .u16 true 64),sd 66 (.ixS 6 61 62),kF 67 66 2,kF 68 67 3,sn (.store 1 68 65)]) .skip
def z104_24:LC:=.seq (.stm [1,2,5,6,7,8,10,34,35,60] [kM 55 9,sd 56 (.cmp .neq 55 (.c (.str (bs [])))),kM 57 56,.g 57 true [kM 58 10,sd 59 (.cmp .geq 58 (ki 0))] 60 59 kf]) z104_25
def z104_23:LC:=.seq (.stm [1,2,5,6,7,8,9,10,34,35] [kM 52 1,kM 53 9,sd 54 (.call 109 [52,53]),kM 10 54]) z104_24
def z104_22:LC:=.seq (.stm [1,2,5,6,7,8,9,34,35] [kM 47 7,kM 48 8,sd 49 (.ixS 6 47 48),kF 50 49 2,kF 51 50 3,sn (.store 1 51 (.c (.int .u16 0)))]) z104_23
def z104_21:LC:=.seq (.reg [1,2,5,6,7,8,9,34,35] [kR 0 38 (.fa 2 8),kR 1 39 (.ld 1 38),kR 2 40 (.mov 7),kR 3 41 (.mov 8),kR 4 42 (.ixS 6 40 41),kR 5 43 (.fa 42 2),kR 6 44 (.fa 43 3),kR 7 45 (.ld 1 44),⟨8,some 46,none,.call 108 [39,45],false,true⟩,kR 9 9 (.mov 46)]) z104_22
def z104_20:LC:=.seq (.stm [1,2,5,6,7,8,34,35] [kM 37 35,kM 8 37]) z104_21
def z104_19:LC:=.block 3 z104_20
def z104_18:LC:=.seq z104_19 (.stm [1,2,5,6,7,34,35] [sd 69 (.add 35 (ki 1)),kM 35 69])
def z104_16:LC:=.seq z104_17 z104_18
def z104_15:LC:=.seq (.stm [1,2,5,6,7,34,35,36] [sd 36 (.lt 35 34)]) z104_16
def z104_14:LC:=.loop z104_15
def z104_13:LC:=.block 2 z104_14
def z104_12:LC:=.seq (.stm [1,2,5,6,7,34,35] [kM 33 7,sd 34 (.len false 33),kM 35 (ki 0)]) z104_13
def z104_11:LC:=.seq z104_12 (.stm [1,2,5,6] [kM 70 5,kM 71 7,sd 72 (.bslice (.rows .cell) [71]),sd 73 (.app (.rows .cell) 70 72),kM 5 73])
def z104_10:LC:=.seq (.stm [1,2,5,6,7] [kF 18 2 2,kL 19 1 18,kM 20 6,kF 21 2 0,kL 22 1 21,sd 23 (.ari .mul false 20 22),kM 24 6,kF 25 2 0,kL 26 1 25,sd 27 (.ari .mul false 24 26),kF 28 2 0,kL 29 1 28,sd 30 (.add 27 29),sd 31 (.sl false 6 19 (some 23) (some 30) none),sd 32 (.call 72 [31]),kM 7 32]) z104_11
def z104_9:LC:=.block 1 z104_10
def z104_8:LC:=.seq z104_9 (.stm [1,2,5,6] [kM 16 6,sd 17 (.add 16 (ki 1)),kM 6 17])
def z104_5:LC:=.seq z104_6 z104_8
def z104_4:LC:=.loop z104_5
def z104_3:LC:=.block 0 z104_4
def z104_2:LC:=.seq (.stm [1,2,5,6] [kM 6 (ki 0)]) z104_3
def z104_26:LC:=.seq (.stm [4] [kM 74 5,kM 4 74]) .ret
def z104_1:LC:=.seq z104_2 z104_26
def z104_0:LC:=.seq (.stm [1,2,5] [sd 11 (.bslice (.rows .cell) []),kM 5 11]) z104_1
def z104:LC:=.seq (.stm [1,2] [sd 2 (.box 0),kM 4 kn]) z104_0
theorem jlW:jaQ Tryz.prog eqs0 71 z104 [.t 4] 75=true:=by kernel_rfl
def z105_7:LC:=.cond 9 .skip (.exit 0)
def z105_6:LC:=.seq (.stm [1,3,4,9] [kM 6 4,kF 7 1 1,kL 8 1 7,sd 9 (.lt 6 8)]) z105_7
def z105_9:LC:=.block 1 (.stm [1,3,4] [kM 12 3,kF 13 1 2,kL 14 1 13,kM 15 4,kF 16 1 0,kL 17 1 16,sd 18 (.ari .mul false 15 17),kM 19 4,kF 20 1 0,kL 21 1 20,sd 22 (.ari .mul false 19 21),kF 23 1 0,kL 24 1 23,sd 25 (.add 22 24),sd 26 (.sl false 6 14 (some 18) (some 25) none),sd 27 (.call 72 [26]),sd 28 (.bslice (.rows .cell) [27]),sd 29 (.app (.rows .cell) 12 28),kM 3 29])
def z105_8:LC:=.seq z105_9 (.stm [1,3,4] [kM 10 4,sd 11 (.add 10 (ki 1)),kM 4 11])
def z105_5:LC:=.seq z105_6 z105_8
def z105_4:LC:=.loop z105_5
def z105_3:LC:=.block 0 z105_4
def z105_2:LC:=.seq (.stm [1,3,4] [kM 4 (ki 0)]) z105_3
def z105_10:LC:=.seq (.stm [2] [kM 30 3,kM 2 30]) .ret
def z105_1:LC:=.seq z105_2 z105_10
def z105_0:LC:=.seq (.stm [1,3] [sd 5 (.bslice (.rows .cell) []),kM 3 5]) z105_1
def z105:LC:=.seq (.stm [1] [sd 1 (.box 0),kM 2 kn]) z105_0
theorem jjt:jaQ Tryz.prog eqs0 37 z105 [.t 2] 31=true:=by kernel_rfl
def z106_7:LC:=.cond 11 .skip (.exit 0)
def z106_12:LC:=.cond 24 (.stm [0,1,5,9,10] [kM 25 5,kM 26 0,kM 27 6,kM 28 1,sd 29 (.add 27 28),sd 30 (.ixS 1 26 29),kL 31 1 30,sd 32 (.call 72 [31]),sd 33 (.bslice (.rows .cell) [32]),sd 34 (.app (.rows .cell) 25 33),kM 5 34]) (.stm [0,1,5,9,10] [kM 35 5,kM 36 0,kM 37 6,sd 38 (.ixS 1 36 37),kL 39 1 38,sd 40 (.len false 39),sd 41 (.build [.int .u32 0,.int .u32 0,.int .u8 0,.int .u16 0] []),sd 42 (.call 51 [40,41]),sd 43 (.bslice (.rows .cell) [42]),sd 44 (.app (.rows .cell) 35 43),kM 5 44])
def z106_11:LC:=.seq (.stm [0,1,5,6,9,10,24] [kM 13 6,kM 14 1,sd 15 (.add 13 14),sd 16 (.cmp .geq 15 (ki 0)),kM 17 16,.g 17 true [kM 18 6,kM 19 1,sd 20 (.add 18 19),kM 21 0,sd 22 (.len false 21),sd 23 (.lt 20 22)] 24 23 kf]) z106_12
def z106_10:LC:=.seq (.stm [0,1,5,6,9,10] [kM 12 10,kM 6 12]) z106_11
def z106_9:LC:=.block 1 z106_10
def z106_8:LC:=.seq z106_9 (.stm [0,1,5,9,10] [sd 45 (.add 10 (ki 1)),kM 10 45])
def z106_6:LC:=.seq z106_7 z106_8
def z106_5:LC:=.seq (.stm [0,1,5,9,10,11] [sd 11 (.lt 10 9)]) z106_6
def z106_4:LC:=.loop z106_5
def z106_3:LC:=.block 0 z106_4
def z106_2:LC:=.seq (.stm [0,1,5,9,10] [kM 8 0,sd 9 (.len false 8),kM 10 (ki 0)]) z106_3
def z106_13:LC:=.seq (.stm [4] [kM 46 5,kM 4 46]) .ret
def z106_1:LC:=.seq z106_2 z106_13
def z106_0:LC:=.seq (.stm [0,1,5] [sd 7 (.bslice (.rows .cell) []),kM 5 7]) z106_1
def z106:LC:=.seq (.stm [0,1] [kM 4 kn]) z106_0
theorem jg9:jaQ Tryz.prog eqs0 36 z106 [.t 4] 47=true:=by kernel_rfl
end
end Go.Proofs.YtcfkfgkndncanaaGreatDoor
