/- Texts of this claim, merged by a program of this claim: KBytes, KScr, KDif. -/
import Derived.Test.YtienkkicehmchaaGreatDoorDl5
namespace Go.Proofs.YtienkkicehmchaaGreatDoor
set_option linter.unusedVariables false
set_option linter.unusedSimpArgs false
section
open Go.RowKit
set_option maxRecDepth 100000
def z50_5:LC:=.seq (.stm [0,3,5] [kM 4 0,sd 5 (.cmp .geq 4 (.c (.int .u64 128)))]) (.cond 5 .skip (.exit 0))
def z50_8:LC:=.seq (.stm [0,3] [kM 6 3,kM 7 0,sd 8 (.conv .u8 true 7),sd 9 (.ari .or false 8 (k8 128)),sd 10 (.bslice (.int .u8) [9]),sd 11 (.app (.int .u8) 6 10),kM 3 11]) (.stm [0,3] [kM 12 0,sd 13 (.ari .shr false 12 (.c (.int .u64 7))),kM 0 13])
def z50_3:LC:=.loop (.seq z50_5 (.block 1 z50_8))
def z50_9:LC:=.seq (.stm [2] [kM 14 3,kM 15 0,sd 16 (.conv .u8 true 15),sd 17 (.bslice (.int .u8) [16]),sd 18 (.app (.int .u8) 14 17),kM 2 18]) .ret
def z50_0:LC:=.seq (.stm [0,3] [kM 3 kn]) (.seq (.block 0 z50_3) z50_9)
def z50:LC:=.seq (.stm [0] [kM 2 kn]) z50_0
theorem jcM:jad Tryz.prog eqs0 168 z50 [.t 2] 19=true:=by kernel_rfl
def z51_0:LC:=.seq (.stm [4] [kM 5 0,sd 6 (.bslice (.int .u8) [5]),kM 7 1,sd 8 (.call 180 [7]),sd 9 (.app (.int .u8) 6 8),kM 4 9]) .ret
def z51:LC:=.seq (.stm [0,1] [kM 4 kn]) z51_0
theorem jcX:jad Tryz.prog eqs0 150 z51 [.t 4] 10=true:=by kernel_rfl
def z52_2:LC:=.cond 6 (.seq (.stm [2,3] [kM 2 kn,kM 3 (ki 4)]) .ret) .skip
def z52_1:LC:=.seq (.stm [0,6] [kM 4 0,sd 5 (.len false 4),sd 6 (.cmp .gtr 5 (ki 4096))]) z52_2
def z52_4:LC:=.seq (.stm [2,3] [kM 7 0,sd 8 (.len false 7),sd 9 (.conv .u64 true 8),sd 10 (.call 168 [9]),kM 11 0,sd 12 (.app (.int .u8) 10 11),kM 2 12,kM 3 (ki 0)]) .ret
def z52_0:LC:=.seq z52_1 z52_4
def z52:LC:=.seq (.stm [0] [kM 2 kn,kM 3 (ki 0)]) z52_0
theorem jfL:jad Tryz.prog eqs0 166 z52 [.t 2,.t 3] 13=true:=by kernel_rfl
def z53_7:LC:=.seq (.stm [2] [kM 8 3,kM 9 0,sd 10 (.conv .u8 true 9),sd 11 (.bslice (.int .u8) [10]),sd 12 (.app (.int .u8) 8 11),kM 2 12]) .ret
def z53_5:LC:=.seq (.stm [0,3,7] [kM 5 0,sd 6 (.ari .quo false 5 (.c (.int .u64 128))),sd 7 (.eq 6 (.c (.int .u64 0)))]) (.cond 7 z53_7 .skip)
def z53_8:LC:=.seq (.stm [0,3] [kM 13 3,kM 14 0,sd 15 (.ari .rem false 14 (.c (.int .u64 128))),sd 16 (.ari .add true 15 (.c (.int .u64 128))),sd 17 (.conv .u8 true 16),sd 18 (.bslice (.int .u8) [17]),sd 19 (.app (.int .u8) 13 18),kM 3 19]) (.stm [0,3] [kM 20 0,sd 21 (.ari .quo false 20 (.c (.int .u64 128))),kM 0 21])
def z53_2:LC:=.loop (.block 1 (.seq z53_5 z53_8))
def z53_0:LC:=.seq (.stm [0,3] [sd 4 (.bslice (.int .u8) []),kM 3 4]) (.block 0 z53_2)
def z53:LC:=.seq (.stm [0] [kM 2 kn]) z53_0
theorem jgq:jad Tryz.prog eqs0 110 z53 [.t 2] 22=true:=by kernel_rfl
def z54_10:LC:=.seq (.stm [0,3,4,7,8] [kM 10 8,kM 4 10]) (.stm [0,3,7,8] [kM 11 3,kM 12 0,kM 13 4,sd 14 (.ixS 1 12 13),kL 15 1 14,sd 16 (.conv .u64 true 15),sd 17 (.call 110 [16]),sd 18 (.app (.int .u8) 11 17),kM 3 18])
def z54_8:LC:=.seq (.block 1 z54_10) (.stm [0,3,7,8] [sd 19 (.add 8 (ki 1)),kM 8 19])
def z54_5:LC:=.seq (.stm [0,3,7,8,9] [sd 9 (.lt 8 7)]) (.seq (.cond 9 .skip (.exit 0)) z54_8)
def z54_4:LC:=.loop z54_5
def z54_2:LC:=.seq (.stm [0,3,7,8] [kM 6 0,sd 7 (.len false 6),kM 8 (ki 0)]) (.block 0 z54_4)
def z54_0:LC:=.seq (.stm [0,3] [sd 5 (.bslice (.int .u8) []),kM 3 5]) (.seq z54_2 (.seq (.stm [2] [kM 20 3,kM 2 20]) .ret))
def z54:LC:=.seq (.stm [0] [kM 2 kn]) z54_0
theorem je8:jad Tryz.prog eqs0 64 z54 [.t 2] 21=true:=by kernel_rfl
def z55_2:LC:=.cond 6 (.seq (.stm [2,3] [kM 2 kn,kM 3 (ki 4)]) .ret) .skip
def z55_1:LC:=.seq (.stm [0,6] [kM 4 0,sd 5 (.len false 4),sd 6 (.cmp .gtr 5 (ki 4096))]) z55_2
def z55_4:LC:=.seq (.stm [2,3] [kM 7 0,sd 8 (.len false 7),sd 9 (.conv .u64 true 8),sd 10 (.call 110 [9]),kM 11 0,sd 12 (.app (.int .u8) 10 11),kM 2 12,kM 3 (ki 0)]) .ret
def z55_0:LC:=.seq z55_1 z55_4
def z55:LC:=.seq (.stm [0] [kM 2 kn,kM 3 (ki 0)]) z55_0
theorem jg7:jad Tryz.prog eqs0 111 z55 [.t 2,.t 3] 13=true:=by kernel_rfl
def z56_1:LC:=.seq (.stm [0,1,10] [kM 6 0,sd 7 (.len false 6),kM 8 1,sd 9 (.len false 8),sd 10 (.cmp .neq 7 9)]) (.cond 10 (.seq (.stm [4] [kM 4 kf]) .ret) .skip)
def z56_14:LC:=.seq (.reg [0,1,12,13,24] [kR 0 16 (.mov 0),kR 1 17 (.mov 5),kR 2 18 (.ixS 1 16 17),kR 3 19 (.ld 1 18),kR 4 20 (.mov 1),kR 5 21 (.mov 5),kR 6 22 (.ixS 1 20 21),kR 7 23 (.ld 1 22),kR 8 24 (.cmp .neq 19 23)]) (.cond 24 (.seq (.stm [4] [kM 4 kf]) .ret) .skip)
def z56_12:LC:=.block 1 (.seq (.stm [0,1,5,12,13] [kM 15 13,kM 5 15]) z56_14)
def z56_11:LC:=.seq z56_12 (.stm [0,1,12,13] [sd 25 (.add 13 (ki 1)),kM 13 25])
def z56_8:LC:=.seq (.stm [0,1,12,13,14] [sd 14 (.lt 13 12)]) (.seq (.cond 14 .skip (.exit 0)) z56_11)
def z56_7:LC:=.loop z56_8
def z56_5:LC:=.seq (.stm [0,1,12,13] [kM 11 0,sd 12 (.len false 11),kM 13 (ki 0)]) (.block 0 z56_7)
def z56_0:LC:=.seq z56_1 (.seq z56_5 (.seq (.stm [4] [kM 4 kt]) .ret))
def z56:LC:=.seq (.stm [0,1] [kM 4 kf]) z56_0
theorem jg8:jad Tryz.prog eqs0 14 z56 [.t 4] 26=true:=by kernel_rfl
end
section
open Go.RowKit
set_option maxRecDepth 100000
def z57_1:LC:=.seq (.stm [1,63] [kF 5 1 0,kL 6 1 5,kF 7 1 1,kL 8 1 7,kF 9 1 2,kL 10 1 9,sd 11 (.build [.int .i64 0,.int .i64 0,.nils] [(0,1,6),(1,1,8),(2,1,10)]),sd 12 (.call 92 [11]),sd 13 (.un .not 12),kM 14 13,.g 14 false [kF 15 1 2,kL 16 1 15,kF 17 1 8,kL 18 1 17,sd 19 (.call 93 [16,18]),sd 20 (.un .not 19)] 21 kt 20,kM 22 21,.g 22 false [kF 23 1 3,kL 24 1 23,sd 25 (.lt 24 (ki 0))] 26 kt 25,kM 27 26,.g 27 false [kF 28 1 3,kL 29 1 28,kF 30 1 0,kL 31 1 30,sd 32 (.cmp .geq 29 31)] 33 kt 32,kM 34 33,.g 34 false [kF 35 1 4,kL 36 1 35,sd 37 (.lt 36 (ki 0))] 38 kt 37,kM 39 38,.g 39 false [kF 40 1 4,kL 41 1 40,kF 42 1 1,kL 43 1 42,sd 44 (.cmp .geq 41 43)] 45 kt 44,kM 46 45,.g 46 false [kF 47 1 6,kL 48 1 47,sd 49 (.cmp .gtr 48 (k8 2))] 50 kt 49,kM 51 50,.g 51 false [kF 52 1 7,kL 53 1 52,sd 54 (.len true 53),sd 55 (.cmp .gtr 54 (ki 64))] 56 kt 55,kM 57 56,.b 57 false [kF 58 1 7,kL 59 1 58,sd 60 (.s2b 59),sd 61 (.call 94 [60]),sd 62 (.un .not 61)] 63 kt 62]) (.cond 63 (.seq (.stm [2] [kM 2 kf]) .ret) .skip)
def z57_13:LC:=.seq (.stm [66,72] [kM 70 4,sd 71 (.call 95 [70]),sd 72 (.eq 71 (ki 0))]) (.cond 72 (.seq (.stm [2] [kM 2 kf]) .ret) .skip)
def z57_11:LC:=.block 1 (.seq (.stm [4,66] [sd 69 (.ext 67 2),kM 4 69]) z57_13)
def z57_8:LC:=.seq (.stm [66,67,68] [sd 67 (.nxt 66),sd 68 (.ext 67 0)]) (.seq (.cond 68 .skip (.exit 0)) z57_11)
def z57_7:LC:=.loop z57_8
def z57_5:LC:=.seq (.stm [66] [kF 64 1 7,kL 65 1 64,sd 66 (.rng 65)]) (.block 0 z57_7)
def z57_0:LC:=.seq z57_1 (.seq z57_5 (.seq (.stm [2] [kM 2 kt]) .ret))
def z57:LC:=.seq (.stm [1] [sd 1 (.box 0),kM 2 kf]) z57_0
theorem jbI:jad Tryz.prog eqs0 41 z57 [.t 2] 73=true:=by kernel_rfl
def z58_2:LC:=.seq (.stm [1,19] [kM 18 4,sd 19 (.un .not 18)]) (.cond 19 (.seq (.stm [2] [kM 2 kf]) .ret) .skip)
def z58_1:LC:=.seq (.stm [1,4] [kF 8 1 0,kL 9 1 8,kF 10 1 1,kL 11 1 10,kF 12 1 2,kL 13 1 12,sd 14 (.build [.int .i64 0,.int .i64 0,.nils] [(0,1,9),(1,1,11),(2,1,13)]),sd 15 (.call 36 [14]),kM 7 15,sd 16 (.ext 7 0),sd 17 (.ext 7 1),kM 3 16,kM 4 17]) z58_2
def z58_6:LC:=.seq (.stm [1,67] [kF 20 1 2,kL 21 1 20,kF 22 1 8,kL 23 1 22,sd 24 (.call 37 [21,23]),sd 25 (.un .not 24),kM 26 25,.g 26 false [kF 27 1 3,kL 28 1 27,sd 29 (.lt 28 (ki 0))] 30 kt 29,kM 31 30,.g 31 false [kF 32 1 3,kL 33 1 32,kF 34 1 0,kL 35 1 34,sd 36 (.cmp .geq 33 35)] 37 kt 36,kM 38 37,.g 38 false [kF 39 1 4,kL 40 1 39,sd 41 (.lt 40 (ki 0))] 42 kt 41,kM 43 42,.g 43 false [kF 44 1 4,kL 45 1 44,kF 46 1 1,kL 47 1 46,sd 48 (.cmp .geq 45 47)] 49 kt 48,kM 50 49,.g 50 false [kF 51 1 6,kL 52 1 51,sd 53 (.cmp .gtr 52 (k8 2))] 54 kt 53,kM 55 54,.g 55 false [kF 56 1 7,kL 57 1 56,sd 58 (.len true 57),sd 59 (.cmp .gtr 58 (ki 64))] 60 kt 59,kM 61 60,.b 61 false [kF 62 1 7,kL 63 1 62,sd 64 (.s2b 63),sd 65 (.call 38 [64]),sd 66 (.un .not 65)] 67 kt 66]) (.cond 67 (.seq (.stm [2] [kM 2 kf]) .ret) .skip)
def z58_20:LC:=.seq (.stm [5,73,74,82] [kM 77 5,kM 78 6,sd 79 (.ixS 1 77 78),kL 80 1 79,sd 81 (.call 40 [80]),sd 82 (.eq 81 (ki 0))]) (.cond 82 (.seq (.stm [2] [kM 2 kf]) .ret) .skip)
def z58_18:LC:=.block 1 (.seq (.stm [5,6,73,74] [kM 76 74,kM 6 76]) z58_20)
def z58_17:LC:=.seq z58_18 (.stm [5,73,74] [sd 83 (.add 74 (ki 1)),kM 74 83])
def z58_14:LC:=.seq (.stm [5,73,74,75] [sd 75 (.lt 74 73)]) (.seq (.cond 75 .skip (.exit 0)) z58_17)
def z58_13:LC:=.loop z58_14
def z58_11:LC:=.seq (.stm [5,73,74] [kM 72 5,sd 73 (.len false 72),kM 74 (ki 0)]) (.block 0 z58_13)
def z58_9:LC:=.seq (.stm [5] [kF 68 1 7,kL 69 1 68,sd 70 (.s2b 69),sd 71 (.call 39 [70]),kM 5 71]) (.seq z58_11 (.seq (.stm [2] [kM 2 kt]) .ret))
def z58_0:LC:=.seq z58_1 (.seq z58_6 z58_9)
def z58:LC:=.seq (.stm [1] [sd 1 (.box 0),kM 2 kf]) z58_0
theorem jb7:jad Tryz.prog eqs0 20 z58 [.t 2] 84=true:=by kernel_rfl
end
section
open Go.RowKit
set_option maxRecDepth 100000
def z59_13:LC:=.cond 23 (.stm [1,2,5,12,13] [kM 24 5,kM 25 6,kM 26 1,kF 27 2 8,kL 28 1 27,kM 29 7,sd 30 (.ari .sub true 29 (.c (.int .u16 1))),sd 31 (.ixS 1 28 30),kL 32 1 31,sd 33 (.call 157 [26,32]),sd 34 (.add 33 (ki 1)),sd 35 (.conv .u16 true 34),sd 36 (.ixS 6 24 25),kF 37 36 2,kF 38 37 3,sn (.store 1 38 35)]) .skip
def z59_12:LC:=.seq (.stm [1,2,5,6,7,12,13,23] [kM 22 7,sd 23 (.cmp .gtr 22 (.c (.int .u16 0)))]) z59_13
def z59_11:LC:=.seq (.stm [1,2,5,6,7,12,13] [kM 16 5,kM 17 6,sd 18 (.ixS 6 16 17),kF 19 18 2,kF 20 19 3,kL 21 1 20,kM 7 21]) z59_12
def z59_9:LC:=.block 1 (.seq (.stm [1,2,5,6,12,13] [kM 15 13,kM 6 15]) z59_11)
def z59_8:LC:=.seq z59_9 (.stm [1,2,5,12,13] [sd 39 (.add 13 (ki 1)),kM 13 39])
def z59_5:LC:=.seq (.stm [1,2,5,12,13,14] [sd 14 (.lt 13 12)]) (.seq (.cond 14 .skip (.exit 0)) z59_8)
def z59_4:LC:=.loop z59_5
def z59_2:LC:=.seq (.stm [1,2,5,12,13] [kM 11 5,sd 12 (.len false 11),kM 13 (ki 0)]) (.block 0 z59_4)
def z59_0:LC:=.seq (.stm [1,2,5] [kF 8 2 2,kL 9 1 8,sd 10 (.call 42 [9]),kM 5 10]) (.seq z59_2 (.seq (.stm [4] [kM 40 5,kM 4 40]) .ret))
def z59:LC:=.seq (.stm [1,2] [sd 2 (.box 0),kM 4 kn]) z59_0
theorem jgE:jad Tryz.prog eqs0 175 z59 [.t 4] 41=true:=by kernel_rfl
def z60_15:LC:=.cond 38 (.stm [3,7,8,10,11,17,18,19] [kF 39 3 2,kL 40 1 39,kM 41 9,kM 42 8,sd 43 (.add 41 42),sd 44 (.ixS 6 40 43),sd 45 (.load true 6 44),sn (.store 6 11 45)]) .skip
def z60_14:LC:=.seq (.stm [3,7,8,9,10,11,17,18,19,38] [kM 26 9,kM 27 8,sd 28 (.add 26 27),sd 29 (.cmp .geq 28 (ki 0)),kM 30 29,.g 30 true [kM 31 9,kM 32 8,sd 33 (.add 31 32),kF 34 3 2,kL 35 1 34,sd 36 (.len false 35),sd 37 (.lt 33 36)] 38 37 kf]) z60_15
def z60_17:LC:=.cond 48 (.stm [3,7,8,17,18,19] [kM 49 7,sd 50 (.add 49 (ki 1)),kM 7 50]) .skip
def z60_16:LC:=.seq (.stm [3,7,8,17,18,19,48] [sd 46 (.load true 6 11),sd 47 (.load true 6 10),sd 48 (.eqA [.i32,.u8,.u32,.u32,.u8,.u16] true 46 47)]) z60_17
def z60_12:LC:=.seq (.stm [3,7,8,9,10,11,17,18,19] [sd 24 (.build [.int .u32 0,.int .u32 0,.int .u8 0,.int .u16 0] []),sd 25 (.call 203 [24]),sd 11 (.zero [.int .i32 0,.int .u8 0,.int .u32 0,.int .u32 0,.int .u8 0,.int .u16 0]),sn (.store 6 11 25)]) (.seq z60_14 z60_16)
def z60_11:LC:=.seq (.stm [3,7,8,9,10,17,18,19] [kM 21 19,sd 22 (.ixS 6 17 19),sd 23 (.load true 6 22),sd 10 (.zero [.int .i32 0,.int .u8 0,.int .u32 0,.int .u32 0,.int .u8 0,.int .u16 0]),kM 9 21,sn (.store 6 10 23)]) z60_12
def z60_9:LC:=.seq (.block 1 z60_11) (.stm [3,7,8,17,18,19] [sd 51 (.add 19 (ki 1)),kM 19 51])
def z60_6:LC:=.seq (.stm [3,7,8,17,18,19,20] [sd 20 (.lt 19 18)]) (.seq (.cond 20 .skip (.exit 0)) z60_9)
def z60_5:LC:=.loop z60_6
def z60_3:LC:=.seq (.stm [3,7,8,17,18,19] [kF 16 4 2,kL 17 1 16,sd 18 (.len false 17),kM 19 (ki 0)]) (.block 0 z60_5)
def z60_1:LC:=.seq (.stm [3,4,7,8] [kM 12 2,kF 13 3 0,kL 14 1 13,sd 15 (.ari .mul false 12 14),kM 8 15]) (.seq z60_3 (.seq (.stm [6] [kM 52 7,kM 6 52]) .ret))
def z60_0:LC:=.seq (.stm [2,3,4,7] [kM 7 (ki 0)]) z60_1
def z60:LC:=.seq (.stm [2,3,4] [sd 3 (.box 0),sd 4 (.box 1),kM 6 (ki 0)]) z60_0
theorem jeS:jad Tryz.prog eqs0 195 z60 [.t 6] 53=true:=by kernel_rfl
def z61_6:LC:=.seq (.stm [2,3,5,6,7,17] [kM 14 7,kF 15 2 1,kL 16 1 15,sd 17 (.lt 14 16)]) (.cond 17 .skip (.exit 0))
def z61_21:LC:=.cond 35 (.stm [2,3,5,6,7,23,24,25] [kM 36 9,kM 37 10,kM 5 36,kM 6 37]) .skip
def z61_20:LC:=.seq (.stm [2,3,5,6,7,9,10,23,24,25,35] [kM 33 10,kM 34 6,sd 35 (.lt 33 34)]) z61_21
def z61_19:LC:=.seq (.stm [2,3,5,6,7,9,10,23,24,25] [sd 29 (.load true 9 2),sd 30 (.load true 9 3),kM 31 9,sd 32 (.call 195 [29,30,31]),kM 10 32]) z61_20
def z61_18:LC:=.seq (.stm [2,3,5,6,7,9,23,24,25] [sd 27 (.ixS 1 23 25),kL 28 1 27,kM 9 28]) z61_19
def z61_16:LC:=.seq (.block 3 z61_18) (.stm [2,3,5,6,7,23,24,25] [sd 38 (.add 25 (ki 1)),kM 25 38])
def z61_13:LC:=.seq (.stm [2,3,5,6,7,23,24,25,26] [sd 26 (.lt 25 24)]) (.seq (.cond 26 .skip (.exit 2)) z61_16)
def z61_12:LC:=.loop z61_13
def z61_10:LC:=.seq (.stm [2,3,5,6,7,23,24,25] [kM 20 7,kM 21 7,sd 22 (.un .neg 21),sd 23 (.bslice (.int .i64) [20,22]),sd 24 (.len false 23),kM 25 (ki 0)]) (.block 2 z61_12)
def z61_8:LC:=.seq (.block 1 z61_10) (.stm [2,3,5,6,7] [kM 18 7,sd 19 (.add 18 (ki 1)),kM 7 19])
def z61_4:LC:=.loop (.seq z61_6 z61_8)
def z61_1:LC:=.seq (.seq (.stm [2,3,5,6,7] [kM 7 (ki 1)]) (.block 0 z61_4)) (.seq (.stm [4] [kM 39 5,kM 4 39]) .ret)
def z61_0:LC:=.seq (.stm [2,3,5,6] [sd 11 (.load true 9 2),sd 12 (.load true 9 3),sd 13 (.call 195 [11,12,(ki 0)]),kM 5 (ki 0),kM 6 13]) z61_1
def z61:LC:=.seq (.stm [2,3] [sd 2 (.box 0),sd 3 (.box 1),kM 4 (ki 0)]) z61_0
theorem jhG:jad Tryz.prog eqs0 176 z61 [.t 4] 40=true:=by kernel_rfl
def z62_1:LC:=.seq (.stm [4] [sd 13 (.load true 3 5),kF 14 2 1,kL 15 1 14,sd 16 (.sub 15 (ki 1)),kM 17 1,sd 18 (.build [.int .u32 0,.int .u32 0,.int .u8 0,.int .u16 0] []),sd 19 (.call 196 [13,(ki 0),16,17,18]),sd 20 (.field 19 2 1 false),kM 4 20]) .ret
def z62_0:LC:=.seq (.stm [1,2,5] [kF 6 2 0,kL 7 1 6,kF 8 2 1,kL 9 1 8,kF 10 2 2,kL 11 1 10,sd 12 (.build [.int .i64 0,.int .i64 0,.nils] [(0,1,7),(1,1,9),(2,1,11)]),sd 5 (.zero [.int .i64 0,.int .i64 0,.nils]),sn (.store 3 5 12)]) z62_1
def z62:LC:=.seq (.stm [1,2] [sd 2 (.box 0),kM 4 kn]) z62_0
theorem jei:jad Tryz.prog eqs0 177 z62 [.t 4] 21=true:=by kernel_rfl
def z63_0:LC:=.seq (.stm [4] [kF 5 2 2,kL 6 1 5,kM 7 1,kF 8 2 0,kL 9 1 8,sd 10 (.ari .mul false 7 9),kM 11 1,sd 12 (.add 11 (ki 1)),kF 13 2 0,kL 14 1 13,sd 15 (.ari .mul false 12 14),sd 16 (.sl false 6 6 (some 10) (some 15) none),kM 4 16]) .ret
def z63:LC:=.seq (.stm [1,2] [sd 2 (.box 0),kM 4 kn]) z63_0
theorem jjw:jad Tryz.prog eqs0 197 z63 [.t 4] 17=true:=by kernel_rfl
def z64_14:LC:=.seq (.reg [2,3,6,7,8,9,10,16,17,26] [kR 0 20 (.load true 9 2),kR 1 21 (.mov 10),kR 3 23 (.load true 9 3),kR 4 24 (.mov 10),⟨2,some 22,none,.call 197 [20,21],true,true⟩,⟨5,some 25,none,.call 197 [23,24],false,true⟩,⟨6,some 26,none,.call 161 [22,25],false,true⟩]) (.cond 26 (.exit 1) .skip)
def z64_29:LC:=.seq (.stm [2,3,6,7,8,9,16,17] [kM 57 8,sd 58 (.add 57 (ki 1)),kM 59 10,sd 60 (.add 59 (ki 1)),kM 8 58,kM 9 60]) (.exit 2)
def z64_28:LC:=.seq (.stm [2,3,6,7,8,10,16,17] [kM 49 7,kM 50 10,kM 51 9,sd 52 (.sub 50 51),kM 53 11,sd 54 (.bslice (.int .i64) [52,53]),sd 55 (.call 180 [54]),sd 56 (.app (.int .u8) 49 55),kM 7 56]) z64_29
def z64_27:LC:=.seq (.reg [2,3,6,7,8,9,10,11,16,17] [kR 0 39 (.mov 6),kR 1 40 (.mov 10),kR 2 41 (.fa 2 0),kR 3 42 (.ld 1 41),kR 4 43 (.ari .mul false 40 42),kR 5 44 (.sl false 6 39 (some 43) none none),kR 6 45 (.load true 9 3),kR 7 46 (.mov 10),⟨8,some 47,none,.call 197 [45,46],true,true⟩,⟨9,some 48,none,.cpy .cell 44 47,false,true⟩]) z64_28
def z64_25:LC:=.seq (.reg [2,3,6,7,8,9,10,11,16,17,28,29,38] [kR 0 32 (.load true 9 2),kR 1 33 (.mov 11),kR 3 35 (.load true 9 3),kR 4 36 (.mov 10),⟨2,some 34,none,.call 197 [32,33],true,true⟩,⟨5,some 37,none,.call 197 [35,36],false,true⟩,⟨6,some 38,none,.call 161 [34,37],false,true⟩]) (.cond 38 z64_27 .skip)
def z64_24:LC:=.seq (.stm [2,3,6,7,8,9,10,11,16,17,28,29] [kM 31 29,kM 11 31]) z64_25
def z64_22:LC:=.seq (.block 3 z64_24) (.stm [2,3,6,7,8,9,10,16,17,28,29] [sd 61 (.add 29 (ki 1)),kM 29 61])
def z64_19:LC:=.seq (.stm [2,3,6,7,8,9,10,16,17,28,29,30] [sd 30 (.lt 29 28)]) (.seq (.cond 30 .skip (.exit 2)) z64_22)
def z64_18:LC:=.loop z64_19
def z64_16:LC:=.seq (.stm [2,3,6,7,8,9,10,16,17,28,29] [kF 27 2 1,kL 28 1 27,kM 29 (ki 0)]) (.block 2 z64_18)
def z64_12:LC:=.seq (.stm [2,3,6,7,8,9,10,16,17] [kM 19 17,kM 10 19]) (.seq z64_14 z64_16)
def z64_10:LC:=.seq (.block 1 z64_12) (.stm [2,3,6,7,8,9,16,17] [sd 62 (.add 17 (ki 1)),kM 17 62])
def z64_7:LC:=.seq (.stm [2,3,6,7,8,9,16,17,18] [sd 18 (.lt 17 16)]) (.seq (.cond 18 .skip (.exit 0)) z64_10)
def z64_6:LC:=.loop z64_7
def z64_4:LC:=.seq (.stm [2,3,6,7,8,9,16,17] [kF 15 3 1,kL 16 1 15,kM 17 (ki 0)]) (.block 0 z64_6)
def z64_32:LC:=.cond 64 (.seq (.stm [4,5] [kM 65 6,kM 4 65,kM 5 kn]) .ret) .skip
def z64_31:LC:=.seq (.stm [6,7,8,64] [kM 63 8,sd 64 (.eq 63 (ki 0))]) z64_32
def z64_34:LC:=.seq (.stm [4,5] [kM 66 6,kM 67 8,sd 68 (.bslice (.int .i64) [67]),sd 69 (.call 150 [(k8 7),68]),kM 70 7,sd 71 (.app (.int .u8) 69 70),kM 4 66,kM 5 71]) .ret
def z64_2:LC:=.seq (.stm [2,3,6,7,8,9] [kM 8 (ki 0),kM 9 (ki 0)]) (.seq z64_4 (.seq z64_31 z64_34))
def z64_0:LC:=.seq (.stm [2,3,6] [kF 12 2 2,kL 13 1 12,sd 14 (.call 42 [13]),kM 6 14]) (.seq (.stm [2,3,6,7] [kM 7 kn]) z64_2)
def z64:LC:=.seq (.stm [2,3] [sd 2 (.box 0),sd 3 (.box 1),kM 4 kn,kM 5 kn]) z64_0
theorem jdM:jad Tryz.prog eqs0 178 z64 [.t 4,.t 5] 72=true:=by kernel_rfl
def z65_1:LC:=.seq (.stm [10] [kF 4 1 2,kL 5 1 4,kM 6 0,sd 7 (.ixS 6 5 6),kF 8 7 1,kL 9 1 8,sd 10 (.eq 9 (k8 1))]) (.cond 10 (.seq (.stm [3] [kM 3 (ki 2)]) .ret) .skip)
def z65_0:LC:=.seq z65_1 (.seq (.stm [3] [kM 3 (ki 1)]) .ret)
def z65:LC:=.seq (.stm [0,1] [kM 3 (ki 0)]) z65_0
theorem jb8:jad Tryz.prog eqs0 198 z65 [.t 3] 11=true:=by kernel_rfl
def z66_0:LC:=.seq (.reg [5] [kR 0 6 (.ld 1 1),kR 1 7 (.mov 0),kR 2 8 (.mov 0),kR 3 9 (.ld 1 2),kR 4 10 (.mov 0),kR 8 14 (.fa 3 2),kR 9 15 (.ld 1 14),kR 10 16 (.mov 0),kR 11 17 (.mov 0),kR 12 18 (.ld 1 2),kR 13 19 (.mov 0),⟨5,some 11,none,.callv 9 [10],true,true⟩,kR 6 12 (.add 8 11),kR 7 13 (.sl false 6 6 (some 7) (some 12) none),⟨14,some 20,none,.callv 18 [19],true,true⟩,kR 15 21 (.add 17 20),kR 16 22 (.sl false 6 15 (some 16) (some 21) none),⟨17,some 23,none,.call 161 [13,22],false,true⟩,kR 18 24 (.un .not 23),kR 19 5 (.mov 24)]) .ret
def z66:LC:=.seq (.stm [0,1,2,3] [kM 5 kf]) z66_0
theorem jdN:jad Tryz.prog eqs0 199 z66 [.t 5] 25=true:=by kernel_rfl
def z67_9:LC:=.seq (.stm [2,3,5,6,7,8,9,10,20] [kM 17 10,kL 18 1 2,sd 19 (.len false 18),sd 20 (.lt 17 19)]) (.cond 20 .skip (.exit 0))
def z67_15:LC:=.seq (.stm [2,3,5,6,7,8,9,10] [kM 25 10,kL 26 1 8,kM 27 10,sd 28 (.callv 26 [27]),sd 29 (.add 25 28),kM 10 29]) (.exit 1)
def z67_13:LC:=.seq (.stm [2,3,5,6,7,8,9,10,24] [kM 21 9,kM 22 10,sd 23 (.callv 21 [22]),sd 24 (.un .not 23)]) (.cond 24 z67_15 .skip)
def z67_23:LC:=.seq (.reg [2,3,5,6,7,8,9,10,11,12,13,14,55] [kR 0 37 (.mov 10),kR 1 38 (.ld 1 2),kR 2 39 (.len false 38),kR 3 40 (.lt 37 39),kR 4 41 (.mov 40),⟨5,some 42,some (41,true),.mov 9,false,false⟩,⟨6,some 43,some (41,true),.mov 10,false,false⟩,⟨7,some 44,some (41,true),.callv 42 [43],false,true⟩,kR 8 45 (.pick 41 44 kf),kR 9 46 (.mov 45),⟨10,some 47,some (46,true),.faddr 3 2,false,false⟩,⟨11,some 48,some (46,true),.load false 1 47,false,false⟩,⟨12,some 49,some (46,true),.mov 10,false,false⟩,⟨13,some 50,some (46,true),.ixS 6 48 49,false,false⟩,⟨14,some 51,some (46,true),.faddr 50 2,false,false⟩,⟨15,some 52,some (46,true),.load true 4 51,false,false⟩,⟨16,some 53,some (46,true),.load true 4 11,false,false⟩,⟨17,some 54,some (46,true),.eqA [.u32,.u32,.u8,.u16] false 52 53,false,false⟩,kR 18 55 (.pick 46 54 kf)]) (.cond 55 .skip (.exit 2))
def z67_27:LC:=.seq (.stm [2,3,5,6,7,8,9,10,11,12,13,14] [kM 66 13,sd 67 (.add 66 (ki 1)),kM 13 67]) (.stm [2,3,5,6,7,8,9,10,11,12,13,14] [kM 68 10,kL 69 1 8,kM 70 10,sd 71 (.callv 69 [70]),sd 72 (.add 68 71),kM 10 72])
def z67_26:LC:=.seq (.stm [2,3,5,6,7,8,9,10,11,12,13,14] [kM 56 14,kF 57 3 2,kL 58 1 57,kM 59 10,sd 60 (.ixS 6 58 59),kF 61 60 0,kL 62 1 61,sd 63 (.conv .u64 true 62),sd 64 (.call 168 [63]),sd 65 (.app (.int .u8) 56 64),kM 14 65]) z67_27
def z67_21:LC:=.loop (.seq z67_23 (.block 3 z67_26))
def z67_28:LC:=.seq (.stm [2,3,5,6,8,9,10] [kM 73 5,kM 74 12,kM 75 7,sd 76 (.sub 74 75),kM 77 13,kF 78 11 0,kL 79 1 78,sd 80 (.conv .i64 false 79),kF 81 11 1,kL 82 1 81,sd 83 (.conv .i64 false 82),kF 84 11 2,kL 85 1 84,sd 86 (.conv .i64 false 85),kF 87 11 3,kL 88 1 87,sd 89 (.conv .i64 false 88),sd 90 (.bslice (.int .i64) [76,77,80,83,86,89]),sd 91 (.call 180 [90]),sd 92 (.app (.int .u8) 73 91),kM 93 14,sd 94 (.app (.int .u8) 92 93),kM 5 94]) (.stm [2,3,5,6,7,8,9,10] [kM 95 6,sd 96 (.add 95 (ki 1)),kM 97 10,kM 6 96,kM 7 97])
def z67_18:LC:=.seq (.stm [2,3,5,6,7,8,9,10,11,12,13,14] [kM 14 kn]) (.seq (.block 2 z67_21) z67_28)
def z67_17:LC:=.seq (.stm [2,3,5,6,7,8,9,10,11,12,13] [kM 36 10,kM 12 36,kM 13 (ki 0)]) z67_18
def z67_16:LC:=.seq (.stm [2,3,5,6,7,8,9,10,11] [kF 30 3 2,kL 31 1 30,kM 32 10,sd 33 (.ixS 6 31 32),kF 34 33 2,sd 35 (.load true 4 34),sd 11 (.zero [.int .u32 0,.int .u32 0,.int .u8 0,.int .u16 0]),sn (.store 4 11 35)]) z67_17
def z67_7:LC:=.loop (.seq z67_9 (.block 1 (.seq z67_13 z67_16)))
def z67_5:LC:=.seq (.stm [2,3,5,6,7,8,9,10] [kM 10 (ki 0)]) (.block 0 z67_7)
def z67_30:LC:=.seq (.stm [5,6,99] [kM 98 6,sd 99 (.eq 98 (ki 0))]) (.cond 99 (.seq (.stm [4] [kM 4 kn]) .ret) .skip)
def z67_33:LC:=.seq (.stm [4] [kM 100 6,sd 101 (.bslice (.int .i64) [100]),sd 102 (.call 150 [(k8 8),101]),kM 103 5,sd 104 (.app (.int .u8) 102 103),kM 4 104]) .ret
def z67_3:LC:=.seq (.stm [2,3,5,6,7,8,9] [sd 16 (.mkfn 199 [2,8,3]),kM 9 16]) (.seq z67_5 (.seq z67_30 z67_33))
def z67_2:LC:=.seq (.stm [2,3,5,6,7,8] [sd 15 (.mkfn 198 [3]),sd 8 (.zero [.nilfn]),sn (.store 1 8 15)]) z67_3
def z67_0:LC:=.seq (.stm [2,3,5] [kM 5 kn]) (.seq (.stm [2,3,5,6,7] [kM 6 (ki 0),kM 7 (ki 0)]) z67_2)
def z67:LC:=.seq (.stm [2,3] [sd 2 (.box 0),sd 3 (.box 1),kM 4 kn]) z67_0
theorem jeT:jad Tryz.prog eqs0 179 z67 [.t 4] 105=true:=by kernel_rfl
def z68_6:LC:=.seq (.stm [2,3,5,6,37] [kF 36 3 5,kL 37 1 36]) (.cond 37 (.stm [2,3,5,6] [kM 6 (ki 1)]) .skip)
def z68_5:LC:=.seq z68_6 (.stm [2,3,5] [kM 38 5,kF 39 3 3,kL 40 1 39,kF 41 3 4,kL 42 1 41,kM 43 6,sd 44 (.bslice (.int .i64) [40,42,43]),sd 45 (.call 150 [(k8 2),44]),sd 46 (.app (.int .u8) 38 45),kM 5 46])
def z68_2:LC:=.seq (.stm [2,3,5,35] [kF 17 3 3,kL 18 1 17,kF 19 2 3,kL 20 1 19,sd 21 (.cmp .neq 18 20),kM 22 21,.g 22 false [kF 23 3 4,kL 24 1 23,kF 25 2 4,kL 26 1 25,sd 27 (.cmp .neq 24 26)] 28 kt 27,kM 29 28,.g 29 false [kF 30 3 5,kL 31 1 30,kF 32 2 5,kL 33 1 32,sd 34 (.cmpB true 31 33)] 35 kt 34]) (.cond 35 (.seq (.stm [2,3,5,6] [kM 6 (ki 0)]) z68_5) .skip)
def z68_11:LC:=.seq (.stm [2,3,5,7] [kF 53 3 7,kL 54 1 53,sd 55 (.s2b 54),sd 56 (.call 166 [55]),kM 52 56,sd 57 (.ext 52 0),sd 58 (.ext 52 1),kM 7 57,kM 8 58]) (.stm [2,3,5] [kM 59 5,sd 60 (.bslice (.int .u8) [(k8 3)]),sd 61 (.app (.int .u8) 59 60),kM 62 7,sd 63 (.app (.int .u8) 61 62),kM 5 63])
def z68_9:LC:=.seq (.stm [2,3,5,51] [kF 47 3 7,kL 48 1 47,kF 49 2 7,kL 50 1 49,sd 51 (.cmp .neq 48 50)]) (.cond 51 z68_11 .skip)
def z68_14:LC:=.cond 68 (.stm [2,3,5] [kM 69 5,kF 70 3 6,kL 71 1 70,sd 72 (.conv .i64 false 71),sd 73 (.bslice (.int .i64) [72]),sd 74 (.call 150 [(k8 4),73]),sd 75 (.app (.int .u8) 69 74),kM 5 75]) .skip
def z68_13:LC:=.seq (.stm [2,3,5,68] [kF 64 3 6,kL 65 1 64,kF 66 2 6,kL 67 1 66,sd 68 (.cmp .neq 65 67)]) z68_14
def z68_23:LC:=.seq (.reg [2,3,5,9,106] [kR 0 82 (.mov 9),kR 1 83 (.fa 3 8),kR 2 84 (.ld 1 83),kR 3 85 (.len false 84),kR 4 86 (.lt 82 85),kR 5 87 (.mov 86),⟨6,some 88,some (87,true),.mov 9,false,false⟩,⟨7,some 89,some (87,true),.faddr 2 8,false,false⟩,⟨8,some 90,some (87,true),.load false 1 89,false,false⟩,⟨9,some 91,some (87,true),.len false 90,false,false⟩,⟨10,some 92,some (87,true),.lt 88 91,false,false⟩,kR 11 93 (.pick 87 92 kf),kR 12 94 (.mov 93),⟨13,some 95,some (94,true),.faddr 3 8,false,false⟩,⟨14,some 96,some (94,true),.load false 1 95,false,false⟩,⟨15,some 97,some (94,true),.mov 9,false,false⟩,⟨16,some 98,some (94,true),.ixS 1 96 97,false,false⟩,⟨17,some 99,some (94,true),.load false 1 98,false,false⟩,⟨18,some 100,some (94,true),.faddr 2 8,false,false⟩,⟨19,some 101,some (94,true),.load false 1 100,false,false⟩,⟨20,some 102,some (94,true),.mov 9,false,false⟩,⟨21,some 103,some (94,true),.ixS 1 101 102,false,false⟩,⟨22,some 104,some (94,true),.load false 1 103,false,false⟩,⟨23,some 105,some (94,true),.eq 99 104,false,false⟩,kR 24 106 (.pick 94 105 kf)]) (.cond 106 .skip (.exit 0))
def z68_25:LC:=.block 1 (.stm [2,3,5,9] [kM 107 9,sd 108 (.add 107 (ki 1)),kM 9 108])
def z68_21:LC:=.loop (.seq z68_23 z68_25)
def z68_20:LC:=.block 0 z68_21
def z68_36:LC:=.seq (.stm [2,3,5,12,122,123,124] [kM 129 11,sd 130 (.s2b 129),sd 131 (.call 166 [130]),kM 128 131,sd 132 (.ext 128 0),sd 133 (.ext 128 1),kM 12 132,kM 13 133]) (.stm [2,3,5,122,123,124] [kM 134 5,kM 135 12,sd 136 (.app (.int .u8) 134 135),kM 5 136])
def z68_35:LC:=.seq (.stm [2,3,5,11,122,123,124] [sd 126 (.ixS 1 122 124),kL 127 1 126,kM 11 127]) z68_36
def z68_33:LC:=.seq (.block 3 z68_35) (.stm [2,3,5,122,123,124] [sd 137 (.add 124 (ki 1)),kM 124 137])
def z68_30:LC:=.seq (.stm [2,3,5,122,123,124,125] [sd 125 (.lt 124 123)]) (.seq (.cond 125 .skip (.exit 2)) z68_33)
def z68_29:LC:=.loop z68_30
def z68_27:LC:=.seq (.stm [2,3,5,122,123,124] [kF 119 3 8,kL 120 1 119,kM 121 9,sd 122 (.sl false 1 120 (some 121) none none),sd 123 (.len false 122),kM 124 (ki 0)]) (.block 2 z68_29)
def z68_26:LC:=.seq (.stm [2,3,5,9] [kM 109 5,kM 110 9,kF 111 3 8,kL 112 1 111,sd 113 (.len false 112),kM 114 9,sd 115 (.sub 113 114),sd 116 (.bslice (.int .i64) [110,115]),sd 117 (.call 150 [(k8 5),116]),sd 118 (.app (.int .u8) 109 117),kM 5 118]) z68_27
def z68_17:LC:=.cond 81 (.seq (.stm [2,3,5,9] [kM 9 (ki 0)]) (.seq z68_20 z68_26)) .skip
def z68_16:LC:=.seq (.stm [2,3,5,81] [kF 76 3 8,kL 77 1 76,kF 78 2 8,kL 79 1 78,sd 80 (.call 174 [77,79]),sd 81 (.un .not 80)]) z68_17
def z68_42:LC:=.seq (.stm [2,3,5,14] [kM 148 5,kM 149 14,sd 150 (.ari .mul false (ki 2) 149),sd 151 (.sub 150 (ki 1)),kM 152 14,sd 153 (.ari .mul false (ki (-2)) 152),sd 154 (.mm true 151 153),sd 155 (.bslice (.int .i64) [154]),sd 156 (.call 150 [(k8 6),155]),sd 157 (.app (.int .u8) 148 156),kM 5 157]) (.stm [2,3,5] [sd 158 (.load true 9 2),kM 159 14,sd 160 (.call 177 [158,159]),kF 161 2 2,sn (.store 1 161 160)])
def z68_40:LC:=.seq (.stm [2,3,5,14,147] [kM 146 14,sd 147 (.cmp .neq 146 (ki 0))]) (.cond 147 z68_42 .skip)
def z68_39:LC:=.seq (.stm [2,3,5,14] [sd 143 (.load true 9 2),sd 144 (.load true 9 3),sd 145 (.call 176 [143,144]),kM 14 145]) z68_40
def z68_45:LC:=.seq (.stm [4] [kM 171 5,kM 172 15,sd 173 (.load true 9 3),sd 174 (.call 179 [172,173]),sd 175 (.app (.int .u8) 171 174),kM 4 175]) .ret
def z68_44:LC:=.seq (.stm [3,5,15] [kM 168 5,kM 169 16,sd 170 (.app (.int .u8) 168 169),kM 5 170]) z68_45
def z68_43:LC:=.seq (.stm [3,5,15,16] [sd 163 (.load true 9 2),sd 164 (.load true 9 3),sd 165 (.call 178 [163,164]),kM 162 165,sd 166 (.ext 162 0),sd 167 (.ext 162 1),kM 15 166,kM 16 167]) z68_44
def z68_37:LC:=.seq (.stm [2,3,5] [sd 138 (.load true 9 2),kF 139 3 8,kL 140 1 139,sd 141 (.call 175 [138,140]),kF 142 2 2,sn (.store 1 142 141)]) (.seq z68_39 z68_43)
def z68_0:LC:=.seq (.stm [2,3,5] [kM 5 kn]) (.seq z68_2 (.seq z68_9 (.seq z68_13 (.seq z68_16 z68_37))))
def z68:LC:=.seq (.stm [2,3] [sd 2 (.box 0),sd 3 (.box 1),kM 4 kn]) z68_0
theorem jfT:jad Tryz.prog eqs0 149 z68 [.t 4] 176=true:=by kernel_rfl
def z69_2:LC:=.cond 8 (.seq (.stm [2,3] [kM 2 kn,kM 3 (ki 1)]) .ret) .skip
def z69_1:LC:=.seq (.stm [1,8] [sd 6 (.load true 9 1),sd 7 (.call 41 [6]),sd 8 (.un .not 7)]) z69_2
def z69_5:LC:=.seq (.reg [2,3] [kR 0 17 (.fa 1 0),kR 1 18 (.ld 1 17),kR 2 19 (.fa 1 1),kR 3 20 (.ld 1 19),kR 6 23 (.load true 9 4),kR 7 24 (.load true 9 1),kR 4 21 (.bslice (.int .i64) [18,20]),⟨5,some 22,none,.call 150 [(k8 1),21],true,true⟩,⟨8,some 25,none,.call 149 [23,24],false,true⟩,⟨9,some 26,none,.app (.int .u8) 22 25,false,true⟩,kR 10 2 (.mov 26),kR 11 3 (.mov (ki 0))]) .ret
def z69_4:LC:=.seq (.stm [1,4] [kF 10 1 0,kL 11 1 10,kF 12 1 1,kL 13 1 12,sd 14 (.call 136 [11,13]),kM 9 14,sd 15 (.ext 9 0),sd 16 (.ext 9 1),sd 4 (.zero [.int .i64 0,.int .i64 0,.nils,.int .i64 0,.int .i64 0,.bool false,.int .u8 0,.str (bs []),.nils]),sn (.store 9 4 15),kM 5 16]) z69_5
def z69_0:LC:=.seq z69_1 z69_4
def z69:LC:=.seq (.stm [1] [sd 1 (.box 0),kM 2 kn,kM 3 (ki 0)]) z69_0
theorem jeU:jad Tryz.prog eqs0 107 z69 [.t 2,.t 3] 27=true:=by kernel_rfl
def z70_7:LC:=.seq (.stm [4,5] [sd 28 (.load true 9 3),sd 29 (.call 107 [28]),sd 30 (.ext 29 0),sd 31 (.ext 29 1),kM 4 30,kM 5 31]) .ret
def z70_5:LC:=.seq (.stm [2,3,15] [kF 16 2 0,kL 17 1 16,kF 18 3 0,kL 19 1 18,sd 20 (.cmp .neq 17 19),kM 21 20,.g 21 false [kF 22 2 1,kL 23 1 22,kF 24 3 1,kL 25 1 24,sd 26 (.cmp .neq 23 25)] 27 kt 26,kM 15 27]) (.cond 15 z70_7 .skip)
def z70_3:LC:=.cond 6 (.seq (.stm [4,5] [kM 4 kn,kM 5 (ki 1)]) .ret) z70_5
def z70_2:LC:=.seq (.stm [2,3,6] [sd 7 (.load true 9 2),sd 8 (.call 41 [7]),sd 9 (.un .not 8),kM 10 9,.g 10 false [sd 11 (.load true 9 3),sd 12 (.call 41 [11]),sd 13 (.un .not 12)] 14 kt 13,kM 6 14]) z70_3
def z70_8:LC:=.seq (.stm [4,5] [sd 32 (.load true 9 2),sd 33 (.load true 9 3),sd 34 (.call 149 [32,33]),kM 4 34,kM 5 (ki 0)]) .ret
def z70_0:LC:=.seq (.block 0 z70_2) z70_8
def z70:LC:=.seq (.stm [2,3] [sd 2 (.box 0),sd 3 (.box 1),kM 4 kn,kM 5 (ki 0)]) z70_0
theorem jfs:jad Tryz.prog eqs0 106 z70 [.t 4,.t 5] 35=true:=by kernel_rfl
end
end Go.Proofs.YtienkkicehmchaaGreatDoor
