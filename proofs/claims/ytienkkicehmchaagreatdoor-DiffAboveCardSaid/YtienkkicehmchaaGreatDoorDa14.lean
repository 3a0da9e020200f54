/- Texts of this claim, merged by a program of this claim: KColor. -/
import Derived.Test.YtienkkicehmchaaGreatDoorDa5
namespace Go.Proofs.YtienkkicehmchaaGreatDoor
set_option linter.unusedVariables false
set_option linter.unusedSimpArgs false
section
open Go.RowKit
set_option maxRecDepth 100000
def z50_5:LC:=.seq (.stm [2,3,4,5] [kM 2 (ki 0),kM 3 (ki 0),kM 4 (ki 0),kM 5 kf]) .ret
def z50_8:LC:=.seq (.stm [2,3,4,5] [kM 23 0,sd 24 (.ari .shr false 23 (.c (.int .u64 16))),sd 25 (.conv .i64 false 24),sd 26 (.ari .and false 25 (ki 255)),kM 27 0,sd 28 (.ari .shr false 27 (.c (.int .u64 8))),sd 29 (.conv .i64 false 28),sd 30 (.ari .and false 29 (ki 255)),kM 31 0,sd 32 (.conv .i64 false 31),sd 33 (.ari .and false 32 (ki 255)),kM 2 26,kM 3 30,kM 4 33,kM 5 kt]) .ret
def z50_11:LC:=.seq (.reg [2,3,4,5] [kR 0 37 (.mov 6),kR 1 38 (.ixA 16 3 (.c (.gptr 2 0)) 37),kR 2 39 (.ixA 3 1 38 (ki 0)),kR 3 40 (.ld 1 39),kR 4 41 (.conv .i64 false 40),kR 5 42 (.mov 6),kR 6 43 (.ixA 16 3 (.c (.gptr 2 0)) 42),kR 7 44 (.ixA 3 1 43 (ki 1)),kR 8 45 (.ld 1 44),kR 9 46 (.conv .i64 false 45),kR 10 47 (.mov 6),kR 11 48 (.ixA 16 3 (.c (.gptr 2 0)) 47),kR 12 49 (.ixA 3 1 48 (ki 2)),kR 13 50 (.ld 1 49),kR 14 51 (.conv .i64 false 50),kR 15 2 (.mov 41),kR 16 3 (.mov 46),kR 17 4 (.mov 51),kR 18 5 (.mov kt)]) .ret
def z50_15:LC:=.seq (.reg [2,3,4,5] [kR 0 57 (.mov 7),kR 1 58 (.ari .quo false 57 (ki 36)),kR 2 59 (.ixA 6 1 (.c (.gptr 3 0)) 58),kR 3 60 (.ld 1 59),kR 4 61 (.mov 7),kR 5 62 (.ari .quo false 61 (ki 6)),kR 6 63 (.ari .rem false 62 (ki 6)),kR 7 64 (.ixA 6 1 (.c (.gptr 3 0)) 63),kR 8 65 (.ld 1 64),kR 9 66 (.mov 7),kR 10 67 (.ari .rem false 66 (ki 6)),kR 11 68 (.ixA 6 1 (.c (.gptr 3 0)) 67),kR 12 69 (.ld 1 68),kR 13 2 (.mov 60),kR 14 3 (.mov 65),kR 15 4 (.mov 69),kR 16 5 (.mov kt)]) .ret
def z50_14:LC:=.seq (.stm [7] [kM 55 6,sd 56 (.sub 55 (ki 16)),kM 7 56]) z50_15
def z50_13:LC:=.cond 52 z50_14 .skip
def z50_12:LC:=.seq (.stm [6,52] [kM 53 6,sd 54 (.lt 53 (ki 232)),kM 52 54]) z50_13
def z50_10:LC:=.cond 34 z50_11 z50_12
def z50_9:LC:=.seq (.stm [6,34] [kM 35 6,sd 36 (.lt 35 (ki 16)),kM 34 36]) z50_10
def z50_7:LC:=.cond 20 z50_8 z50_9
def z50_6:LC:=.seq (.stm [0,6,20] [kM 21 0,sd 22 (.cmp .geq 21 (.c (.int .u32 16777216))),kM 20 22]) z50_7
def z50_4:LC:=.cond 12 z50_5 z50_6
def z50_3:LC:=.seq (.stm [0,6,12] [kM 13 0,sd 14 (.eq 13 (.c (.int .u32 0))),kM 15 14,.g 15 false [kM 16 0,sd 17 (.call 158 [16]),sd 18 (.un .not 17)] 19 kt 18,kM 12 19]) z50_4
def z50_2:LC:=.block 0 z50_3
def z50_17:LC:=.seq (.stm [2,3,4,5] [kM 74 8,kM 75 8,kM 76 8,kM 2 74,kM 3 75,kM 4 76,kM 5 kt]) .ret
def z50_16:LC:=.seq (.stm [8] [kM 70 6,sd 71 (.sub 70 (ki 232)),sd 72 (.ari .mul false (ki 10) 71),sd 73 (.add (ki 8) 72),kM 8 73]) z50_17
def z50_1:LC:=.seq z50_2 z50_16
def z50_0:LC:=.seq (.stm [0,6] [kM 9 0,sd 10 (.conv .i64 false 9),sd 11 (.sub 10 (ki 1)),kM 6 11]) z50_1
def z50:LC:=.seq (.stm [0] [kM 2 (ki 0),kM 3 (ki 0),kM 4 (ki 0),kM 5 kf]) z50_0
theorem jex:jag Tryz.prog eqs0 202 z50 [.t 2,.t 3,.t 4,.t 5] 77=true:=by kernel_rfl
def z51_5:LC:=.seq (.stm [4] [sd 4 (.mov (ki (-1)))]) .ret
def z51_4:LC:=.cond 32 z51_5 .skip
def z51_3:LC:=.seq (.stm [5,6,7,9,10,11,32] [kM 27 8,sd 28 (.un .not 27),kM 29 28,.g 29 false [kM 30 12,sd 31 (.un .not 30)] 32 kt 31]) z51_4
def z51_6:LC:=.seq (.stm [4] [kM 33 5,kM 34 9,sd 35 (.sub 33 34),kM 36 5,kM 37 9,sd 38 (.sub 36 37),sd 39 (.ari .mul false 35 38),kM 40 6,kM 41 10,sd 42 (.sub 40 41),kM 43 6,kM 44 10,sd 45 (.sub 43 44),sd 46 (.ari .mul false 42 45),sd 47 (.add 39 46),kM 48 7,kM 49 11,sd 50 (.sub 48 49),kM 51 7,kM 52 11,sd 53 (.sub 51 52),sd 54 (.ari .mul false 50 53),sd 55 (.add 47 54),kM 4 55]) .ret
def z51_2:LC:=.seq z51_3 z51_6
def z51_1:LC:=.seq (.stm [5,6,7,8,9,10,11,12] [kM 21 1,sd 22 (.call 202 [21]),kM 20 22,sd 23 (.ext 20 0),sd 24 (.ext 20 1),sd 25 (.ext 20 2),sd 26 (.ext 20 3),kM 9 23,kM 10 24,kM 11 25,kM 12 26]) z51_2
def z51_0:LC:=.seq (.stm [1,5,6,7,8] [kM 14 0,sd 15 (.call 202 [14]),kM 13 15,sd 16 (.ext 13 0),sd 17 (.ext 13 1),sd 18 (.ext 13 2),sd 19 (.ext 13 3),kM 5 16,kM 6 17,kM 7 18,kM 8 19]) z51_1
def z51:LC:=.seq (.stm [0,1] [kM 4 (ki 0)]) z51_0
theorem jgM:jag Tryz.prog eqs0 188 z51 [.t 4] 56=true:=by kernel_rfl
def z52_7:LC:=.cond 16 .skip (.exit 0)
def z52_14:LC:=.cond 32 (.stm [0,2,6,7,14,15] [kM 33 9,kM 34 10,kM 6 33,kM 7 34]) .skip
def z52_13:LC:=.seq (.stm [0,2,6,7,9,10,14,15,32] [kM 26 6,sd 27 (.eq 26 (.c (.int .u32 0))),kM 28 27,.g 28 false [kM 29 10,kM 30 7,sd 31 (.lt 29 30)] 32 kt 31]) z52_14
def z52_12:LC:=.seq (.stm [0,2,6,7,9,10,14,15] [kL 23 1 2,kM 24 9,sd 25 (.call 188 [23,24]),kM 10 25]) z52_13
def z52_11:LC:=.seq (.stm [0,2,6,7,9,14,15] [kM 18 0,kM 19 8,sd 20 (.add 18 19),sd 21 (.add 20 (ki 1)),sd 22 (.conv .u32 true 21),kM 9 22]) z52_12
def z52_10:LC:=.seq (.stm [0,2,6,7,8,14,15] [kM 17 15,kM 8 17]) z52_11
def z52_9:LC:=.block 1 z52_10
def z52_8:LC:=.seq z52_9 (.stm [0,2,6,7,14,15] [sd 35 (.add 15 (ki 1)),kM 15 35])
def z52_6:LC:=.seq z52_7 z52_8
def z52_5:LC:=.seq (.stm [0,2,6,7,14,15,16] [sd 16 (.lt 15 14)]) z52_6
def z52_4:LC:=.loop z52_5
def z52_3:LC:=.block 0 z52_4
def z52_2:LC:=.seq (.stm [0,2,6,7,14,15] [kM 11 1,kM 12 0,sd 13 (.sub 11 12),sd 14 (.add 13 (ki 1)),kM 15 (ki 0)]) z52_3
def z52_15:LC:=.seq (.stm [5] [kM 36 6,kM 5 36]) .ret
def z52_1:LC:=.seq z52_2 z52_15
def z52_0:LC:=.seq (.stm [0,1,2,6,7] [sd 6 (.mov (.c (.int .u32 0))),kM 7 (ki 0)]) z52_1
def z52:LC:=.seq (.stm [0,1,2] [sd 5 (.mov (.c (.int .u32 0)))]) z52_0
theorem jbp:jag Tryz.prog eqs0 187 z52 [.t 5] 37=true:=by kernel_rfl
def z53_0:LC:=.seq (.stm [2] [sd 3 (.mkfn 187 [1]),kM 2 3]) .ret
def z53:LC:=.seq (.stm [1] [sd 1 (.box 0),kM 2 (.c .nilfn)]) z53_0
theorem jb7:jag Tryz.prog eqs0 159 z53 [.t 2] 4=true:=by kernel_rfl
def z54_3:LC:=.seq (.stm [2] [kM 10 0,kM 2 10]) .ret
def z54_2:LC:=.cond 9 z54_3 .skip
def z54_1:LC:=.seq (.stm [0,9] [kM 3 0,sd 4 (.lt 3 (.c (.int .u32 16777216))),kM 5 4,.g 5 false [kM 6 0,sd 7 (.call 158 [6]),sd 8 (.un .not 7)] 9 kt 8]) z54_2
def z54_4:LC:=.seq (.stm [2] [kM 11 0,sd 12 (.call 159 [11]),sd 13 (.callv 12 [(ki 16),(ki 255)]),kM 2 13]) .ret
def z54_0:LC:=.seq z54_1 z54_4
def z54:LC:=.seq (.stm [0] [sd 2 (.mov (.c (.int .u32 0)))]) z54_0
theorem jey:jag Tryz.prog eqs0 130 z54 [.t 2] 14=true:=by kernel_rfl
def z55_3:LC:=.seq (.stm [2] [kM 10 0,kM 2 10]) .ret
def z55_2:LC:=.cond 9 z55_3 .skip
def z55_1:LC:=.seq (.stm [0,9] [kM 3 0,sd 4 (.cmp .leq 3 (.c (.int .u32 16))),kM 5 4,.g 5 false [kM 6 0,sd 7 (.call 158 [6]),sd 8 (.un .not 7)] 9 kt 8]) z55_2
def z55_4:LC:=.seq (.stm [2] [kM 11 0,sd 12 (.call 159 [11]),sd 13 (.callv 12 [(ki 0),(ki 15)]),kM 2 13]) .ret
def z55_0:LC:=.seq z55_1 z55_4
def z55:LC:=.seq (.stm [0] [sd 2 (.mov (.c (.int .u32 0)))]) z55_0
theorem jfF:jag Tryz.prog eqs0 131 z55 [.t 2] 14=true:=by kernel_rfl
def z56_6:LC:=.cond 5 .skip (.stm [0,1,5] [kM 15 0,sd 16 (.lt 15 (.c (.int .u32 16777216))),kM 17 16,.g 17 true [kM 18 1,sd 19 (.ari .and false 18 (.c (.int .u32 1))),sd 20 (.cmp .neq 19 (.c (.int .u32 0)))] 21 20 kf,kM 5 21])
def z56_5:LC:=.seq (.stm [0,1,5] [kM 8 0,sd 9 (.cmp .geq 8 (.c (.int .u32 16777216))),kM 10 9,.g 10 true [kM 11 1,sd 12 (.ari .and false 11 (.c (.int .u32 2))),sd 13 (.cmp .neq 12 (.c (.int .u32 0)))] 14 13 kf,kM 5 14]) z56_6
def z56_4:LC:=.cond 5 .skip z56_5
def z56_3:LC:=.seq (.stm [0,1,5] [kM 6 0,sd 7 (.cmp .leq 6 (.c (.int .u32 16))),kM 5 7]) z56_4
def z56_8:LC:=.seq (.stm [4] [kM 22 0,kM 4 22]) .ret
def z56_11:LC:=.seq (.stm [4] [kM 27 0,sd 28 (.call 130 [27]),kM 4 28]) .ret
def z56_10:LC:=.cond 23 z56_11 .skip
def z56_9:LC:=.seq (.stm [0,23] [kM 24 1,sd 25 (.ari .and false 24 (.c (.int .u32 1))),sd 26 (.cmp .neq 25 (.c (.int .u32 0))),kM 23 26]) z56_10
def z56_7:LC:=.cond 5 z56_8 z56_9
def z56_2:LC:=.seq z56_3 z56_7
def z56_1:LC:=.block 0 z56_2
def z56_12:LC:=.seq (.stm [4] [kM 29 0,sd 30 (.call 131 [29]),kM 4 30]) .ret
def z56_0:LC:=.seq z56_1 z56_12
def z56:LC:=.seq (.stm [0,1] [sd 4 (.mov (.c (.int .u32 0)))]) z56_0
theorem jgN:jag Tryz.prog eqs0 96 z56 [.t 4] 31=true:=by kernel_rfl
def z57_13:LC:=.cond 5 (.exit 1) .skip
def z57_12:LC:=.seq (.stm [3,4,5] [sd 6 (.eq 4 (ki 3)),kM 5 6]) z57_13
def z57_16:LC:=.cond 7 (.exit 2) .skip
def z57_15:LC:=.seq (.stm [3,4,7] [sd 8 (.eq 4 (ki 2)),kM 7 8]) z57_16
def z57_18:LC:=.cond 9 (.exit 3) .skip
def z57_17:LC:=.seq (.stm [3,9] [sd 10 (.eq 4 (ki 1)),kM 9 10]) z57_18
def z57_14:LC:=.seq z57_15 z57_17
def z57_11:LC:=.seq z57_12 z57_14
def z57_10:LC:=.seq z57_11 (.exit 0)
def z57_9:LC:=.block 1 z57_10
def z57_8:LC:=.seq z57_9 (.stm [3] [kM 11 3,sd 12 (.ari .or false 11 (.c (.int .u32 12))),kM 3 12])
def z57_7:LC:=.block 2 z57_8
def z57_6:LC:=.seq z57_7 (.stm [3] [kM 13 3,sd 14 (.ari .or false 13 (.c (.int .u32 34))),kM 3 14])
def z57_5:LC:=.block 3 z57_6
def z57_19:LC:=.seq (.stm [3] [kM 15 3,sd 16 (.ari .or false 15 (.c (.int .u32 17))),kM 3 16]) (.exit 0)
def z57_4:LC:=.seq z57_5 z57_19
def z57_3:LC:=.block 0 z57_4
def z57_2:LC:=.seq (.stm [3,4] [kM 4 0]) z57_3
def z57_20:LC:=.seq (.stm [2] [kM 17 3,kM 2 17]) .ret
def z57_1:LC:=.seq z57_2 z57_20
def z57_0:LC:=.seq (.stm [0,3] [sd 3 (.mov (.c (.int .u32 0)))]) z57_1
def z57:LC:=.seq (.stm [0] [sd 2 (.mov (.c (.int .u32 0)))]) z57_0
theorem jdL:jag Tryz.prog eqs0 22 z57 [.t 2] 18=true:=by kernel_rfl
def z58_3:LC:=.cond 22 (.stm [1,2,4] [kF 23 2 2,kF 24 23 3,sn (.store 1 24 (.c (.int .u16 0)))]) .skip
def z58_2:LC:=.seq (.stm [1,2,4,22] [kM 20 1,sd 21 (.ari .and false 20 (.c (.int .u32 8))),sd 22 (.eq 21 (.c (.int .u32 0)))]) z58_3
def z58_10:LC:=.cond 35 (.stm [2,4,5] [sd 5 (.mov (.c (.int .i32 32)))]) .skip
def z58_9:LC:=.seq (.stm [2,4,5,35] [kF 33 2 1,kL 34 1 33,sd 35 (.eq 34 (k8 2))]) z58_10
def z58_8:LC:=.seq z58_9 (.stm [2,4] [kM 36 5,kF 37 2 0,sn (.store 1 37 36),kF 38 2 1,sn (.store 1 38 (k8 0))])
def z58_7:LC:=.seq (.stm [2,4,5] [sd 5 (.mov (.c (.int .i32 63)))]) z58_8
def z58_6:LC:=.cond 32 z58_7 .skip
def z58_5:LC:=.seq (.stm [2,4,32] [kM 25 1,sd 26 (.ari .and false 25 (.c (.int .u32 4))),sd 27 (.eq 26 (.c (.int .u32 0))),kM 28 27,.g 28 true [kF 29 2 1,kL 30 1 29,sd 31 (.cmp .neq 30 (k8 0))] 32 31 kf]) z58_6
def z58_11:LC:=.seq (.stm [4] [sd 39 (.load true 6 2),sn (.store 6 4 39)]) .ret
def z58_4:LC:=.seq z58_5 z58_11
def z58_1:LC:=.seq z58_2 z58_4
def z58_0:LC:=.seq (.reg [1,2,4] [kR 0 6 (.fa 2 2),kR 1 7 (.fa 6 0),kR 2 8 (.ld 1 7),kR 3 9 (.mov 1),kR 5 11 (.fa 2 2),kR 6 12 (.fa 11 1),kR 7 13 (.ld 1 12),kR 8 14 (.mov 1),⟨4,some 10,none,.call 96 [8,9],true,true⟩,kR 10 16 (.fa 2 2),kR 11 17 (.fa 16 0),⟨9,some 15,none,.call 96 [13,14],false,true⟩,⟨12,none,none,.store 1 17 10,false,true⟩,kR 13 18 (.fa 2 2),kR 14 19 (.fa 18 1),⟨15,none,none,.store 1 19 15,false,true⟩]) z58_1
def z58:LC:=.seq (.stm [1,2,4] [sd 2 (.box 0),sd 4 (.zero [.int .i32 0,.int .u8 0,.int .u32 0,.int .u32 0,.int .u8 0,.int .u16 0])]) z58_0
theorem jez:jag Tryz.prog eqs0 44 z58 [.c 4 true 6] 40=true:=by kernel_rfl
def z59_3:LC:=.seq (.stm [4] [sd 9 (.build [.int .i64 0,.int .i64 0,.nils,.int .i64 0,.int .i64 0,.bool false,.int .u8 0,.str (bs []),.nils] []),sn (.store 9 4 9)]) .ret
def z59_2:LC:=.cond 8 z59_3 .skip
def z59_1:LC:=.seq (.stm [1,2,4,8] [sd 6 (.load true 9 2),sd 7 (.call 41 [6]),sd 8 (.un .not 7)]) z59_2
def z59_11:LC:=.cond 22 .skip (.exit 0)
def z59_14:LC:=.seq (.stm [1,2,4,5,20,21] [kM 23 21,kM 5 23]) (.reg [1,2,4,20,21] [kR 0 24 (.fa 2 2),kR 1 25 (.ld 1 24),kR 2 26 (.mov 5),kR 3 27 (.fa 2 2),kR 4 28 (.ld 1 27),kR 5 29 (.mov 5),kR 6 30 (.ixS 6 28 29),kR 7 31 (.load true 6 30),kR 8 32 (.mov 1),⟨9,some 33,none,.call 44 [31,32],true,true⟩,kR 10 34 (.ixS 6 25 26),⟨11,none,none,.store 6 34 33,false,true⟩])
def z59_13:LC:=.block 1 z59_14
def z59_12:LC:=.seq z59_13 (.stm [1,2,4,20,21] [sd 35 (.add 21 (ki 1)),kM 21 35])
def z59_10:LC:=.seq z59_11 z59_12
def z59_9:LC:=.seq (.stm [1,2,4,20,21,22] [sd 22 (.lt 21 20)]) z59_10
def z59_8:LC:=.loop z59_9
def z59_7:LC:=.block 0 z59_8
def z59_6:LC:=.seq (.stm [1,2,4,20,21] [kF 18 2 2,kL 19 1 18,sd 20 (.len false 19),kM 21 (ki 0)]) z59_7
def z59_17:LC:=.cond 38 (.stm [1,2,4] [kF 39 2 8,sn (.store 1 39 kn)]) .skip
def z59_16:LC:=.seq (.stm [1,2,4,38] [kM 36 1,sd 37 (.ari .and false 36 (.c (.int .u32 8))),sd 38 (.eq 37 (.c (.int .u32 0)))]) z59_17
def z59_20:LC:=.cond 42 (.stm [1,2,4] [kF 43 2 7,sn (.store 1 43 (.c (.str (bs []))))]) .skip
def z59_19:LC:=.seq (.stm [1,2,4,42] [kM 40 1,sd 41 (.ari .and false 40 (.c (.int .u32 16))),sd 42 (.eq 41 (.c (.int .u32 0)))]) z59_20
def z59_23:LC:=.cond 46 (.stm [2,4] [kF 47 2 6,sn (.store 1 47 (k8 0))]) .skip
def z59_22:LC:=.seq (.stm [2,4,46] [kM 44 1,sd 45 (.ari .and false 44 (.c (.int .u32 32))),sd 46 (.eq 45 (.c (.int .u32 0)))]) z59_23
def z59_24:LC:=.seq (.stm [4] [sd 48 (.load true 9 2),sn (.store 9 4 48)]) .ret
def z59_21:LC:=.seq z59_22 z59_24
def z59_18:LC:=.seq z59_19 z59_21
def z59_15:LC:=.seq z59_16 z59_18
def z59_5:LC:=.seq z59_6 z59_15
def z59_4:LC:=.seq (.reg [1,2,4] [kR 0 10 (.fa 2 2),kR 1 11 (.ld 1 10),kR 3 13 (.fa 2 8),kR 4 14 (.ld 1 13),⟨2,some 12,none,.call 42 [11],true,true⟩,kR 6 16 (.fa 2 2),⟨5,some 15,none,.call 43 [14],false,true⟩,⟨7,none,none,.store 1 16 12,false,true⟩,kR 8 17 (.fa 2 8),⟨9,none,none,.store 1 17 15,false,true⟩]) z59_5
def z59_0:LC:=.seq z59_1 z59_4
def z59:LC:=.seq (.stm [1,2,4] [sd 2 (.box 0),sd 4 (.zero [.int .i64 0,.int .i64 0,.nils,.int .i64 0,.int .i64 0,.bool false,.int .u8 0,.str (bs []),.nils])]) z59_0
theorem jc1:jag Tryz.prog eqs0 21 z59 [.c 4 true 9] 49=true:=by kernel_rfl
end
end Go.Proofs.YtienkkicehmchaaGreatDoor
