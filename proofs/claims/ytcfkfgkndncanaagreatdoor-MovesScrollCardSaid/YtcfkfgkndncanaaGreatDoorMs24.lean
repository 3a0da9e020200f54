/- Texts of this claim, merged by a program of this claim: KBytes, KScr, KDif. -/
import Derived.Test.YtcfkfgkndncanaaGreatDoorMs5
namespace Go.Proofs.YtcfkfgkndncanaaGreatDoor
set_option linter.unusedVariables false
set_option linter.unusedSimpArgs false
section
open Go.RowKit
set_option maxRecDepth 100000
def z67_6:LC:=.cond 5 .skip (.exit 0)
def z67_5:LC:=.seq (.stm [0,3,5] [kM 4 0,sd 5 (.cmp .geq 4 (.c (.int .u64 128)))]) z67_6
def z67_8:LC:=.seq (.stm [0,3] [kM 6 3,kM 7 0,sd 8 (.conv .u8 true 7),sd 9 (.ari .or false 8 (k8 128)),sd 10 (.bslice (.int .u8) [9]),sd 11 (.app (.int .u8) 6 10),kM 3 11]) (.stm [0,3] [kM 12 0,sd 13 (.ari .shr false 12 (.c (.int .u64 7))),kM 0 13])
def z67_7:LC:=.block 1 z67_8
def z67_4:LC:=.seq z67_5 z67_7
def z67_3:LC:=.loop z67_4
def z67_2:LC:=.block 0 z67_3
def z67_9:LC:=.seq (.stm [2] [kM 14 3,kM 15 0,sd 16 (.conv .u8 true 15),sd 17 (.bslice (.int .u8) [16]),sd 18 (.app (.int .u8) 14 17),kM 2 18]) .ret
def z67_1:LC:=.seq z67_2 z67_9
def z67_0:LC:=.seq (.stm [0,3] [kM 3 kn]) z67_1
def z67:LC:=.seq (.stm [0] [kM 2 kn]) z67_0
theorem jfu:jaH Tryz.prog eqs0 113 z67 [.t 2] 19=true:=by kernel_rfl
def z68_0:LC:=.seq (.stm [4] [kM 5 0,sd 6 (.bslice (.int .u8) [5]),kM 7 1,sd 8 (.call 91 [7]),sd 9 (.app (.int .u8) 6 8),kM 4 9]) .ret
def z68:LC:=.seq (.stm [0,1] [kM 4 kn]) z68_0
theorem jdw:jaH Tryz.prog eqs0 49 z68 [.t 4] 10=true:=by kernel_rfl
def z69_3:LC:=.seq (.stm [2,3] [kM 2 kn,kM 3 (ki 4)]) .ret
def z69_2:LC:=.cond 6 z69_3 .skip
def z69_1:LC:=.seq (.stm [0,6] [kM 4 0,sd 5 (.len false 4),sd 6 (.cmp .gtr 5 (ki 4096))]) z69_2
def z69_4:LC:=.seq (.stm [2,3] [kM 7 0,sd 8 (.len false 7),sd 9 (.conv .u64 true 8),sd 10 (.call 113 [9]),kM 11 0,sd 12 (.app (.int .u8) 10 11),kM 2 12,kM 3 (ki 0)]) .ret
def z69_0:LC:=.seq z69_1 z69_4
def z69:LC:=.seq (.stm [0] [kM 2 kn,kM 3 (ki 0)]) z69_0
theorem jhk:jaH Tryz.prog eqs0 83 z69 [.t 2,.t 3] 13=true:=by kernel_rfl
def z70_3:LC:=.seq (.stm [4] [kM 4 kf]) .ret
def z70_2:LC:=.cond 10 z70_3 .skip
def z70_1:LC:=.seq (.stm [0,1,10] [kM 6 0,sd 7 (.len false 6),kM 8 1,sd 9 (.len false 8),sd 10 (.cmp .neq 7 9)]) z70_2
def z70_10:LC:=.cond 14 .skip (.exit 0)
def z70_16:LC:=.seq (.stm [4] [kM 4 kf]) .ret
def z70_15:LC:=.cond 24 z70_16 .skip
def z70_14:LC:=.seq (.reg [0,1,12,13,24] [kR 0 16 (.mov 0),kR 1 17 (.mov 5),kR 2 18 (.ixS 1 16 17),kR 3 19 (.ld 1 18),kR 4 20 (.mov 1),kR 5 21 (.mov 5),kR 6 22 (.ixS 1 20 21),kR 7 23 (.ld 1 22),kR 8 24 (.cmp .neq 19 23)]) z70_15
def z70_13:LC:=.seq (.stm [0,1,5,12,13] [kM 15 13,kM 5 15]) z70_14
def z70_12:LC:=.block 1 z70_13
def z70_11:LC:=.seq z70_12 (.stm [0,1,12,13] [sd 25 (.add 13 (ki 1)),kM 13 25])
def z70_9:LC:=.seq z70_10 z70_11
def z70_8:LC:=.seq (.stm [0,1,12,13,14] [sd 14 (.lt 13 12)]) z70_9
def z70_7:LC:=.loop z70_8
def z70_6:LC:=.block 0 z70_7
def z70_5:LC:=.seq (.stm [0,1,12,13] [kM 11 0,sd 12 (.len false 11),kM 13 (ki 0)]) z70_6
def z70_17:LC:=.seq (.stm [4] [kM 4 kt]) .ret
def z70_4:LC:=.seq z70_5 z70_17
def z70_0:LC:=.seq z70_1 z70_4
def z70:LC:=.seq (.stm [0,1] [kM 4 kf]) z70_0
theorem jtv:jaH Tryz.prog eqs0 14 z70 [.t 4] 26=true:=by kernel_rfl
end
section
open Go.RowKit
set_option maxRecDepth 100000
def z71_3:LC:=.seq (.stm [2] [kM 2 kf]) .ret
def z71_2:LC:=.cond 63 z71_3 .skip
def z71_1:LC:=.seq (.stm [1,63] [kF 5 1 0,kL 6 1 5,kF 7 1 1,kL 8 1 7,kF 9 1 2,kL 10 1 9,sd 11 (.build [.int .i64 0,.int .i64 0,.nils] [(0,1,6),(1,1,8),(2,1,10)]),sd 12 (.call 56 [11]),sd 13 (.un .not 12),kM 14 13,.g 14 false [kF 15 1 2,kL 16 1 15,kF 17 1 8,kL 18 1 17,sd 19 (.call 57 [16,18]),sd 20 (.un .not 19)] 21 kt 20,kM 22 21,.g 22 false [kF 23 1 3,kL 24 1 23,sd 25 (.lt 24 (ki 0))] 26 kt 25,kM 27 26,.g 27 false [kF 28 1 3,kL 29 1 28,kF 30 1 0,kL 31 1 30,sd 32 (.cmp .geq 29 31)] 33 kt 32,kM 34 33,.g 34 false [kF 35 1 4,kL 36 1 35,sd 37 (.lt 36 (ki 0))] 38 kt 37,kM 39 38,.g 39 false [kF 40 1 4,kL 41 1 40,kF 42 1 1,kL 43 1 42,sd 44 (.cmp .geq 41 43)] 45 kt 44,kM 46 45,.g 46 false [kF 47 1 6,kL 48 1 47,sd 49 (.cmp .gtr 48 (k8 2))] 50 kt 49,kM 51 50,.g 51 false [kF 52 1 7,kL 53 1 52,sd 54 (.len true 53),sd 55 (.cmp .gtr 54 (ki 64))] 56 kt 55,kM 57 56,.b 57 false [kF 58 1 7,kL 59 1 58,sd 60 (.s2b 59),sd 61 (.call 58 [60]),sd 62 (.un .not 61)] 63 kt 62]) z71_2
def z71_10:LC:=.cond 68 .skip (.exit 0)
def z71_15:LC:=.seq (.stm [2] [kM 2 kf]) .ret
def z71_14:LC:=.cond 72 z71_15 .skip
def z71_13:LC:=.seq (.stm [66,72] [kM 70 4,sd 71 (.call 59 [70]),sd 72 (.eq 71 (ki 0))]) z71_14
def z71_12:LC:=.seq (.stm [4,66] [sd 69 (.ext 67 2),kM 4 69]) z71_13
def z71_11:LC:=.block 1 z71_12
def z71_9:LC:=.seq z71_10 z71_11
def z71_8:LC:=.seq (.stm [66,67,68] [sd 67 (.nxt 66),sd 68 (.ext 67 0)]) z71_9
def z71_7:LC:=.loop z71_8
def z71_6:LC:=.block 0 z71_7
def z71_5:LC:=.seq (.stm [66] [kF 64 1 7,kL 65 1 64,sd 66 (.rng 65)]) z71_6
def z71_16:LC:=.seq (.stm [2] [kM 2 kt]) .ret
def z71_4:LC:=.seq z71_5 z71_16
def z71_0:LC:=.seq z71_1 z71_4
def z71:LC:=.seq (.stm [1] [sd 1 (.box 0),kM 2 kf]) z71_0
theorem jdV:jaH Tryz.prog eqs0 22 z71 [.t 2] 73=true:=by kernel_rfl
def z72_4:LC:=.seq (.stm [2] [kM 2 kf]) .ret
def z72_3:LC:=.cond 19 z72_4 .skip
def z72_2:LC:=.seq (.stm [1,19] [kM 18 4,sd 19 (.un .not 18)]) z72_3
def z72_1:LC:=.seq (.stm [1,4] [kF 8 1 0,kL 9 1 8,kF 10 1 1,kL 11 1 10,kF 12 1 2,kL 13 1 12,sd 14 (.build [.int .i64 0,.int .i64 0,.nils] [(0,1,9),(1,1,11),(2,1,13)]),sd 15 (.call 42 [14]),kM 7 15,sd 16 (.ext 7 0),sd 17 (.ext 7 1),kM 3 16,kM 4 17]) z72_2
def z72_8:LC:=.seq (.stm [2] [kM 2 kf]) .ret
def z72_7:LC:=.cond 67 z72_8 .skip
def z72_6:LC:=.seq (.stm [1,67] [kF 20 1 2,kL 21 1 20,kF 22 1 8,kL 23 1 22,sd 24 (.call 43 [21,23]),sd 25 (.un .not 24),kM 26 25,.g 26 false [kF 27 1 3,kL 28 1 27,sd 29 (.lt 28 (ki 0))] 30 kt 29,kM 31 30,.g 31 false [kF 32 1 3,kL 33 1 32,kF 34 1 0,kL 35 1 34,sd 36 (.cmp .geq 33 35)] 37 kt 36,kM 38 37,.g 38 false [kF 39 1 4,kL 40 1 39,sd 41 (.lt 40 (ki 0))] 42 kt 41,kM 43 42,.g 43 false [kF 44 1 4,kL 45 1 44,kF 46 1 1,kL 47 1 46,sd 48 (.cmp .geq 45 47)] 49 kt 48,kM 50 49,.g 50 false [kF 51 1 6,kL 52 1 51,sd 53 (.cmp .gtr 52 (k8 2))] 54 kt 53,kM 55 54,.g 55 false [kF 56 1 7,kL 57 1 56,sd 58 (.len true 57),sd 59 (.cmp .gtr 58 (ki 64))] 60 kt 59,kM 61 60,.b 61 false [kF 62 1 7,kL 63 1 62,sd 64 (.s2b 63),sd 65 (.call 44 [64]),sd 66 (.un .not 65)] 67 kt 66]) z72_7
def z72_16:LC:=.cond 75 .skip (.exit 0)
def z72_22:LC:=.seq (.stm [2] [kM 2 kf]) .ret
def z72_21:LC:=.cond 82 z72_22 .skip
def z72_20:LC:=.seq (.stm [5,73,74,82] [kM 77 5,kM 78 6,sd 79 (.ixS 1 77 78),kL 80 1 79,sd 81 (.call 46 [80]),sd 82 (.eq 81 (ki 0))]) z72_21
def z72_19:LC:=.seq (.stm [5,6,73,74] [kM 76 74,kM 6 76]) z72_20
def z72_18:LC:=.block 1 z72_19
def z72_17:LC:=.seq z72_18 (.stm [5,73,74] [sd 83 (.add 74 (ki 1)),kM 74 83])
def z72_15:LC:=.seq z72_16 z72_17
def z72_14:LC:=.seq (.stm [5,73,74,75] [sd 75 (.lt 74 73)]) z72_15
def z72_13:LC:=.loop z72_14
def z72_12:LC:=.block 0 z72_13
def z72_11:LC:=.seq (.stm [5,73,74] [kM 72 5,sd 73 (.len false 72),kM 74 (ki 0)]) z72_12
def z72_23:LC:=.seq (.stm [2] [kM 2 kt]) .ret
def z72_10:LC:=.seq z72_11 z72_23
def z72_9:LC:=.seq (.stm [5] [kF 68 1 7,kL 69 1 68,sd 70 (.s2b 69),sd 71 (.call 45 [70]),kM 5 71]) z72_10
def z72_5:LC:=.seq z72_6 z72_9
def z72_0:LC:=.seq z72_1 z72_5
def z72:LC:=.seq (.stm [1] [sd 1 (.box 0),kM 2 kf]) z72_0
theorem jk5:jaH Tryz.prog eqs0 15 z72 [.t 2] 84=true:=by kernel_rfl
def z73_2:LC:=.seq (.stm [2] [sd 13 (.load true 9 1),sn (.store 9 2 13)]) .ret
def z73_1:LC:=.seq (.stm [1,2] [sd 8 (.bslice .str []),kF 9 1 8,kL 10 1 9,sd 11 (.app .str 8 10),kF 12 1 8,sn (.store 1 12 11)]) z73_2
def z73_0:LC:=.seq (.stm [1,2] [sd 3 (.bslice .cell []),kF 4 1 2,kL 5 1 4,sd 6 (.app .cell 3 5),kF 7 1 2,sn (.store 1 7 6)]) z73_1
def z73:LC:=.seq (.stm [1,2] [sd 1 (.box 0),sd 2 (.zero [.int .i64 0,.int .i64 0,.nils,.int .i64 0,.int .i64 0,.bool false,.int .u8 0,.str (bs []),.nils])]) z73_0
theorem jmm:jaH Tryz.prog eqs0 9 z73 [.c 2 true 9] 14=true:=by kernel_rfl
def z74_0:LC:=.seq (.stm [4] [kF 5 2 0,kL 6 1 5,kF 7 3 0,kL 8 1 7,sd 9 (.eq 6 8),kM 10 9,.g 10 true [kF 11 2 1,kL 12 1 11,kF 13 3 1,kL 14 1 13,sd 15 (.eq 12 14)] 16 15 kf,kM 17 16,.g 17 true [kF 18 2 3,kL 19 1 18,kF 20 3 3,kL 21 1 20,sd 22 (.eq 19 21)] 23 22 kf,kM 24 23,.g 24 true [kF 25 2 4,kL 26 1 25,kF 27 3 4,kL 28 1 27,sd 29 (.eq 26 28)] 30 29 kf,kM 31 30,.g 31 true [kF 32 2 5,kL 33 1 32,kF 34 3 5,kL 35 1 34,sd 36 (.cmpB false 33 35)] 37 36 kf,kM 38 37,.g 38 true [kF 39 2 6,kL 40 1 39,kF 41 3 6,kL 42 1 41,sd 43 (.eq 40 42)] 44 43 kf,kM 45 44,.g 45 true [kF 46 2 7,kL 47 1 46,kF 48 3 7,kL 49 1 48,sd 50 (.eq 47 49)] 51 50 kf,kM 52 51,.g 52 true [kF 53 2 8,kL 54 1 53,kF 55 3 8,kL 56 1 55,sd 57 (.call 40 [54,56])] 58 57 kf,kM 59 58,.g 59 true [kF 60 2 2,kL 61 1 60,sd 62 (.build [.int .i64 0,.int .i64 0,.nils] [(2,1,61)]),kF 63 3 2,kL 64 1 63,sd 65 (.build [.int .i64 0,.int .i64 0,.nils] [(2,1,64)]),sd 66 (.call 41 [62,65])] 67 66 kf,kM 4 67]) .ret
def z74:LC:=.seq (.stm [2,3] [sd 2 (.box 0),sd 3 (.box 1),kM 4 kf]) z74_0
theorem jmn:jaH Tryz.prog eqs0 13 z74 [.t 4] 68=true:=by kernel_rfl
def z75_0:LC:=.seq (.stm [2] [kF 3 1 2,kL 4 1 3,sd 5 (.len false 4),sd 6 (.cmp .gtr 5 (ki 3000)),kM 7 6,.g 7 false [kF 8 1 7,kL 9 1 8,sd 10 (.len true 9),sd 11 (.cmp .gtr 10 (ki 1000))] 12 kt 11,kM 13 12,.g 13 false [kF 14 1 8,kL 15 1 14,sd 16 (.len false 15),sd 17 (.cmp .gtr 16 (ki 1000))] 18 kt 17,kM 2 18]) .ret
def z75:LC:=.seq (.stm [1] [sd 1 (.box 0),kM 2 kf]) z75_0
theorem jk6:jaH Tryz.prog eqs0 7 z75 [.t 2] 19=true:=by kernel_rfl
end
section
open Go.RowKit
set_option maxRecDepth 100000
def z76_7:LC:=.cond 14 .skip (.exit 0)
def z76_13:LC:=.cond 23 (.stm [1,2,5,12,13] [kM 24 5,kM 25 6,kM 26 1,kF 27 2 8,kL 28 1 27,kM 29 7,sd 30 (.ari .sub true 29 (.c (.int .u16 1))),sd 31 (.ixS 1 28 30),kL 32 1 31,sd 33 (.call 114 [26,32]),sd 34 (.add 33 (ki 1)),sd 35 (.conv .u16 true 34),sd 36 (.ixS 6 24 25),kF 37 36 2,kF 38 37 3,sn (.store 1 38 35)]) .skip
def z76_12:LC:=.seq (.stm [1,2,5,6,7,12,13,23] [kM 22 7,sd 23 (.cmp .gtr 22 (.c (.int .u16 0)))]) z76_13
def z76_11:LC:=.seq (.stm [1,2,5,6,7,12,13] [kM 16 5,kM 17 6,sd 18 (.ixS 6 16 17),kF 19 18 2,kF 20 19 3,kL 21 1 20,kM 7 21]) z76_12
def z76_10:LC:=.seq (.stm [1,2,5,6,12,13] [kM 15 13,kM 6 15]) z76_11
def z76_9:LC:=.block 1 z76_10
def z76_8:LC:=.seq z76_9 (.stm [1,2,5,12,13] [sd 39 (.add 13 (ki 1)),kM 13 39])
def z76_6:LC:=.seq z76_7 z76_8
def z76_5:LC:=.seq (.stm [1,2,5,12,13,14] [sd 14 (.lt 13 12)]) z76_6
def z76_4:LC:=.loop z76_5
def z76_3:LC:=.block 0 z76_4
def z76_2:LC:=.seq (.stm [1,2,5,12,13] [kM 11 5,sd 12 (.len false 11),kM 13 (ki 0)]) z76_3
def z76_14:LC:=.seq (.stm [4] [kM 40 5,kM 4 40]) .ret
def z76_1:LC:=.seq z76_2 z76_14
def z76_0:LC:=.seq (.stm [1,2,5] [kF 8 2 2,kL 9 1 8,sd 10 (.call 24 [9]),kM 5 10]) z76_1
def z76:LC:=.seq (.stm [1,2] [sd 2 (.box 0),kM 4 kn]) z76_0
theorem jef:jaH Tryz.prog eqs0 85 z76 [.t 4] 41=true:=by kernel_rfl
def z77_8:LC:=.cond 20 .skip (.exit 0)
def z77_15:LC:=.cond 38 (.stm [3,7,8,10,11,17,18,19] [kF 39 3 2,kL 40 1 39,kM 41 9,kM 42 8,sd 43 (.add 41 42),sd 44 (.ixS 6 40 43),sd 45 (.load true 6 44),sn (.store 6 11 45)]) .skip
def z77_14:LC:=.seq (.stm [3,7,8,9,10,11,17,18,19,38] [kM 26 9,kM 27 8,sd 28 (.add 26 27),sd 29 (.cmp .geq 28 (ki 0)),kM 30 29,.g 30 true [kM 31 9,kM 32 8,sd 33 (.add 31 32),kF 34 3 2,kL 35 1 34,sd 36 (.len false 35),sd 37 (.lt 33 36)] 38 37 kf]) z77_15
def z77_17:LC:=.cond 48 (.stm [3,7,8,17,18,19] [kM 49 7,sd 50 (.add 49 (ki 1)),kM 7 50]) .skip
def z77_16:LC:=.seq (.stm [3,7,8,17,18,19,48] [sd 46 (.load true 6 11),sd 47 (.load true 6 10),sd 48 (.eqA [.i32,.u8,.u32,.u32,.u8,.u16] true 46 47)]) z77_17
def z77_13:LC:=.seq z77_14 z77_16
def z77_12:LC:=.seq (.stm [3,7,8,9,10,11,17,18,19] [sd 24 (.build [.int .u32 0,.int .u32 0,.int .u8 0,.int .u16 0] []),sd 25 (.call 126 [24]),sd 11 (.zero [.int .i32 0,.int .u8 0,.int .u32 0,.int .u32 0,.int .u8 0,.int .u16 0]),sn (.store 6 11 25)]) z77_13
def z77_11:LC:=.seq (.stm [3,7,8,9,10,17,18,19] [kM 21 19,sd 22 (.ixS 6 17 19),sd 23 (.load true 6 22),sd 10 (.zero [.int .i32 0,.int .u8 0,.int .u32 0,.int .u32 0,.int .u8 0,.int .u16 0]),kM 9 21,sn (.store 6 10 23)]) z77_12
def z77_10:LC:=.block 1 z77_11
def z77_9:LC:=.seq z77_10 (.stm [3,7,8,17,18,19] [sd 51 (.add 19 (ki 1)),kM 19 51])
def z77_7:LC:=.seq z77_8 z77_9
def z77_6:LC:=.seq (.stm [3,7,8,17,18,19,20] [sd 20 (.lt 19 18)]) z77_7
def z77_5:LC:=.loop z77_6
def z77_4:LC:=.block 0 z77_5
def z77_3:LC:=.seq (.stm [3,7,8,17,18,19] [kF 16 4 2,kL 17 1 16,sd 18 (.len false 17),kM 19 (ki 0)]) z77_4
def z77_18:LC:=.seq (.stm [6] [kM 52 7,kM 6 52]) .ret
def z77_2:LC:=.seq z77_3 z77_18
def z77_1:LC:=.seq (.stm [3,4,7,8] [kM 12 2,kF 13 3 0,kL 14 1 13,sd 15 (.ari .mul false 12 14),kM 8 15]) z77_2
def z77_0:LC:=.seq (.stm [2,3,4,7] [kM 7 (ki 0)]) z77_1
def z77:LC:=.seq (.stm [2,3,4] [sd 3 (.box 0),sd 4 (.box 1),kM 6 (ki 0)]) z77_0
theorem jeB:jaH Tryz.prog eqs0 115 z77 [.t 6] 53=true:=by kernel_rfl
def z78_7:LC:=.cond 17 .skip (.exit 0)
def z78_6:LC:=.seq (.stm [2,3,5,6,7,17] [kM 14 7,kF 15 2 1,kL 16 1 15,sd 17 (.lt 14 16)]) z78_7
def z78_15:LC:=.cond 26 .skip (.exit 2)
def z78_21:LC:=.cond 35 (.stm [2,3,5,6,7,23,24,25] [kM 36 9,kM 37 10,kM 5 36,kM 6 37]) .skip
def z78_20:LC:=.seq (.stm [2,3,5,6,7,9,10,23,24,25,35] [kM 33 10,kM 34 6,sd 35 (.lt 33 34)]) z78_21
def z78_19:LC:=.seq (.stm [2,3,5,6,7,9,10,23,24,25] [sd 29 (.load true 9 2),sd 30 (.load true 9 3),kM 31 9,sd 32 (.call 115 [29,30,31]),kM 10 32]) z78_20
def z78_18:LC:=.seq (.stm [2,3,5,6,7,9,23,24,25] [sd 27 (.ixS 1 23 25),kL 28 1 27,kM 9 28]) z78_19
def z78_17:LC:=.block 3 z78_18
def z78_16:LC:=.seq z78_17 (.stm [2,3,5,6,7,23,24,25] [sd 38 (.add 25 (ki 1)),kM 25 38])
def z78_14:LC:=.seq z78_15 z78_16
def z78_13:LC:=.seq (.stm [2,3,5,6,7,23,24,25,26] [sd 26 (.lt 25 24)]) z78_14
def z78_12:LC:=.loop z78_13
def z78_11:LC:=.block 2 z78_12
def z78_10:LC:=.seq (.stm [2,3,5,6,7,23,24,25] [kM 20 7,kM 21 7,sd 22 (.un .neg 21),sd 23 (.bslice (.int .i64) [20,22]),sd 24 (.len false 23),kM 25 (ki 0)]) z78_11
def z78_9:LC:=.block 1 z78_10
def z78_8:LC:=.seq z78_9 (.stm [2,3,5,6,7] [kM 18 7,sd 19 (.add 18 (ki 1)),kM 7 19])
def z78_5:LC:=.seq z78_6 z78_8
def z78_4:LC:=.loop z78_5
def z78_3:LC:=.block 0 z78_4
def z78_2:LC:=.seq (.stm [2,3,5,6,7] [kM 7 (ki 1)]) z78_3
def z78_22:LC:=.seq (.stm [4] [kM 39 5,kM 4 39]) .ret
def z78_1:LC:=.seq z78_2 z78_22
def z78_0:LC:=.seq (.stm [2,3,5,6] [sd 11 (.load true 9 2),sd 12 (.load true 9 3),sd 13 (.call 115 [11,12,(ki 0)]),kM 5 (ki 0),kM 6 13]) z78_1
def z78:LC:=.seq (.stm [2,3] [sd 2 (.box 0),sd 3 (.box 1),kM 4 (ki 0)]) z78_0
theorem jgp:jaH Tryz.prog eqs0 86 z78 [.t 4] 40=true:=by kernel_rfl
def z79_1:LC:=.seq (.stm [4] [sd 13 (.load true 3 5),kF 14 2 1,kL 15 1 14,sd 16 (.sub 15 (ki 1)),kM 17 1,sd 18 (.build [.int .u32 0,.int .u32 0,.int .u8 0,.int .u16 0] []),sd 19 (.call 103 [13,(ki 0),16,17,18]),sd 20 (.field 19 2 1 false),kM 4 20]) .ret
def z79_0:LC:=.seq (.stm [1,2,5] [kF 6 2 0,kL 7 1 6,kF 8 2 1,kL 9 1 8,kF 10 2 2,kL 11 1 10,sd 12 (.build [.int .i64 0,.int .i64 0,.nils] [(0,1,7),(1,1,9),(2,1,11)]),sd 5 (.zero [.int .i64 0,.int .i64 0,.nils]),sn (.store 3 5 12)]) z79_1
def z79:LC:=.seq (.stm [1,2] [sd 2 (.box 0),kM 4 kn]) z79_0
theorem jcY:jaH Tryz.prog eqs0 65 z79 [.t 4] 21=true:=by kernel_rfl
def z80_0:LC:=.seq (.stm [4] [kF 5 2 2,kL 6 1 5,kM 7 1,kF 8 2 0,kL 9 1 8,sd 10 (.ari .mul false 7 9),kM 11 1,sd 12 (.add 11 (ki 1)),kF 13 2 0,kL 14 1 13,sd 15 (.ari .mul false 12 14),sd 16 (.sl false 6 6 (some 10) (some 15) none),kM 4 16]) .ret
def z80:LC:=.seq (.stm [1,2] [sd 2 (.box 0),kM 4 kn]) z80_0
theorem jeC:jaH Tryz.prog eqs0 105 z80 [.t 4] 17=true:=by kernel_rfl
def z81_9:LC:=.cond 18 .skip (.exit 0)
def z81_15:LC:=.cond 26 (.exit 1) .skip
def z81_14:LC:=.seq (.reg [2,3,6,7,8,9,10,16,17,26] [kR 0 20 (.load true 9 2),kR 1 21 (.mov 10),kR 3 23 (.load true 9 3),kR 4 24 (.mov 10),⟨2,some 22,none,.call 105 [20,21],true,true⟩,⟨5,some 25,none,.call 105 [23,24],false,true⟩,⟨6,some 26,none,.call 116 [22,25],false,true⟩]) z81_15
def z81_21:LC:=.cond 30 .skip (.exit 2)
def z81_29:LC:=.seq (.stm [2,3,6,7,8,9,16,17] [kM 57 8,sd 58 (.add 57 (ki 1)),kM 59 10,sd 60 (.add 59 (ki 1)),kM 8 58,kM 9 60]) (.exit 2)
def z81_28:LC:=.seq (.stm [2,3,6,7,8,10,16,17] [kM 49 7,kM 50 10,kM 51 9,sd 52 (.sub 50 51),kM 53 11,sd 54 (.bslice (.int .i64) [52,53]),sd 55 (.call 91 [54]),sd 56 (.app (.int .u8) 49 55),kM 7 56]) z81_29
def z81_27:LC:=.seq (.reg [2,3,6,7,8,9,10,11,16,17] [kR 0 39 (.mov 6),kR 1 40 (.mov 10),kR 2 41 (.fa 2 0),kR 3 42 (.ld 1 41),kR 4 43 (.ari .mul false 40 42),kR 5 44 (.sl false 6 39 (some 43) none none),kR 6 45 (.load true 9 3),kR 7 46 (.mov 10),⟨8,some 47,none,.call 105 [45,46],true,true⟩,⟨9,some 48,none,.cpy .cell 44 47,false,true⟩]) z81_28
def z81_26:LC:=.cond 38 z81_27 .skip
def z81_25:LC:=.seq (.reg [2,3,6,7,8,9,10,11,16,17,28,29,38] [kR 0 32 (.load true 9 2),kR 1 33 (.mov 11),kR 3 35 (.load true 9 3),kR 4 36 (.mov 10),⟨2,some 34,none,.call 105 [32,33],true,true⟩,⟨5,some 37,none,.call 105 [35,36],false,true⟩,⟨6,some 38,none,.call 116 [34,37],false,true⟩]) z81_26
def z81_24:LC:=.seq (.stm [2,3,6,7,8,9,10,11,16,17,28,29] [kM 31 29,kM 11 31]) z81_25
def z81_23:LC:=.block 3 z81_24
def z81_22:LC:=.seq z81_23 (.stm [2,3,6,7,8,9,10,16,17,28,29] [sd 61 (.add 29 (ki 1)),kM 29 61])
def z81_20:LC:=.seq z81_21 z81_22
def z81_19:LC:=.seq (.stm [2,3,6,7,8,9,10,16,17,28,29,30] [sd 30 (.lt 29 28)]) z81_20
def z81_18:LC:=.loop z81_19
def z81_17:LC:=.block 2 z81_18
def z81_16:LC:=.seq (.stm [2,3,6,7,8,9,10,16,17,28,29] [kF 27 2 1,kL 28 1 27,kM 29 (ki 0)]) z81_17
def z81_13:LC:=.seq z81_14 z81_16
def z81_12:LC:=.seq (.stm [2,3,6,7,8,9,10,16,17] [kM 19 17,kM 10 19]) z81_13
def z81_11:LC:=.block 1 z81_12
def z81_10:LC:=.seq z81_11 (.stm [2,3,6,7,8,9,16,17] [sd 62 (.add 17 (ki 1)),kM 17 62])
def z81_8:LC:=.seq z81_9 z81_10
def z81_7:LC:=.seq (.stm [2,3,6,7,8,9,16,17,18] [sd 18 (.lt 17 16)]) z81_8
def z81_6:LC:=.loop z81_7
def z81_5:LC:=.block 0 z81_6
def z81_4:LC:=.seq (.stm [2,3,6,7,8,9,16,17] [kF 15 3 1,kL 16 1 15,kM 17 (ki 0)]) z81_5
def z81_33:LC:=.seq (.stm [4,5] [kM 65 6,kM 4 65,kM 5 kn]) .ret
def z81_32:LC:=.cond 64 z81_33 .skip
def z81_31:LC:=.seq (.stm [6,7,8,64] [kM 63 8,sd 64 (.eq 63 (ki 0))]) z81_32
def z81_34:LC:=.seq (.stm [4,5] [kM 66 6,kM 67 8,sd 68 (.bslice (.int .i64) [67]),sd 69 (.call 49 [(k8 7),68]),kM 70 7,sd 71 (.app (.int .u8) 69 70),kM 4 66,kM 5 71]) .ret
def z81_30:LC:=.seq z81_31 z81_34
def z81_3:LC:=.seq z81_4 z81_30
def z81_2:LC:=.seq (.stm [2,3,6,7,8,9] [kM 8 (ki 0),kM 9 (ki 0)]) z81_3
def z81_1:LC:=.seq (.stm [2,3,6,7] [kM 7 kn]) z81_2
def z81_0:LC:=.seq (.stm [2,3,6] [kF 12 2 2,kL 13 1 12,sd 14 (.call 24 [13]),kM 6 14]) z81_1
def z81:LC:=.seq (.stm [2,3] [sd 2 (.box 0),sd 3 (.box 1),kM 4 kn,kM 5 kn]) z81_0
theorem jdx:jaH Tryz.prog eqs0 87 z81 [.t 4,.t 5] 72=true:=by kernel_rfl
def z82_3:LC:=.seq (.stm [3] [kM 3 (ki 2)]) .ret
def z82_2:LC:=.cond 10 z82_3 .skip
def z82_1:LC:=.seq (.stm [10] [kF 4 1 2,kL 5 1 4,kM 6 0,sd 7 (.ixS 6 5 6),kF 8 7 1,kL 9 1 8,sd 10 (.eq 9 (k8 1))]) z82_2
def z82_4:LC:=.seq (.stm [3] [kM 3 (ki 1)]) .ret
def z82_0:LC:=.seq z82_1 z82_4
def z82:LC:=.seq (.stm [0,1] [kM 3 (ki 0)]) z82_0
theorem jcL:jaH Tryz.prog eqs0 117 z82 [.t 3] 11=true:=by kernel_rfl
def z83_0:LC:=.seq (.reg [5] [kR 0 6 (.ld 1 1),kR 1 7 (.mov 0),kR 2 8 (.mov 0),kR 3 9 (.ld 1 2),kR 4 10 (.mov 0),kR 8 14 (.fa 3 2),kR 9 15 (.ld 1 14),kR 10 16 (.mov 0),kR 11 17 (.mov 0),kR 12 18 (.ld 1 2),kR 13 19 (.mov 0),⟨5,some 11,none,.callv 9 [10],true,true⟩,kR 6 12 (.add 8 11),kR 7 13 (.sl false 6 6 (some 7) (some 12) none),⟨14,some 20,none,.callv 18 [19],true,true⟩,kR 15 21 (.add 17 20),kR 16 22 (.sl false 6 15 (some 16) (some 21) none),⟨17,some 23,none,.call 116 [13,22],false,true⟩,kR 18 24 (.un .not 23),kR 19 5 (.mov 24)]) .ret
def z83:LC:=.seq (.stm [0,1,2,3] [kM 5 kf]) z83_0
theorem jdy:jaH Tryz.prog eqs0 118 z83 [.t 5] 25=true:=by kernel_rfl
def z84_10:LC:=.cond 20 .skip (.exit 0)
def z84_9:LC:=.seq (.stm [2,3,5,6,7,8,9,10,20] [kM 17 10,kL 18 1 2,sd 19 (.len false 18),sd 20 (.lt 17 19)]) z84_10
def z84_15:LC:=.seq (.stm [2,3,5,6,7,8,9,10] [kM 25 10,kL 26 1 8,kM 27 10,sd 28 (.callv 26 [27]),sd 29 (.add 25 28),kM 10 29]) (.exit 1)
def z84_14:LC:=.cond 24 z84_15 .skip
def z84_13:LC:=.seq (.stm [2,3,5,6,7,8,9,10,24] [kM 21 9,kM 22 10,sd 23 (.callv 21 [22]),sd 24 (.un .not 23)]) z84_14
def z84_24:LC:=.cond 55 .skip (.exit 2)
def z84_23:LC:=.seq (.reg [2,3,5,6,7,8,9,10,11,12,13,14,55] [kR 0 37 (.mov 10),kR 1 38 (.ld 1 2),kR 2 39 (.len false 38),kR 3 40 (.lt 37 39),kR 4 41 (.mov 40),⟨5,some 42,some (41,true),.mov 9,false,false⟩,⟨6,some 43,some (41,true),.mov 10,false,false⟩,⟨7,some 44,some (41,true),.callv 42 [43],false,true⟩,kR 8 45 (.pick 41 44 kf),kR 9 46 (.mov 45),⟨10,some 47,some (46,true),.faddr 3 2,false,false⟩,⟨11,some 48,some (46,true),.load false 1 47,false,false⟩,⟨12,some 49,some (46,true),.mov 10,false,false⟩,⟨13,some 50,some (46,true),.ixS 6 48 49,false,false⟩,⟨14,some 51,some (46,true),.faddr 50 2,false,false⟩,⟨15,some 52,some (46,true),.load true 4 51,false,false⟩,⟨16,some 53,some (46,true),.load true 4 11,false,false⟩,⟨17,some 54,some (46,true),.eqA [.u32,.u32,.u8,.u16] false 52 53,false,false⟩,kR 18 55 (.pick 46 54 kf)]) z84_24
def z84_27:LC:=.seq (.stm [2,3,5,6,7,8,9,10,11,12,13,14] [kM 66 13,sd 67 (.add 66 (ki 1)),kM 13 67]) (.stm [2,3,5,6,7,8,9,10,11,12,13,14] [kM 68 10,kL 69 1 8,kM 70 10,sd 71 (.callv 69 [70]),sd 72 (.add 68 71),kM 10 72])
def z84_26:LC:=.seq (.stm [2,3,5,6,7,8,9,10,11,12,13,14] [kM 56 14,kF 57 3 2,kL 58 1 57,kM 59 10,sd 60 (.ixS 6 58 59),kF 61 60 0,kL 62 1 61,sd 63 (.conv .u64 true 62),sd 64 (.call 113 [63]),sd 65 (.app (.int .u8) 56 64),kM 14 65]) z84_27
def z84_25:LC:=.block 3 z84_26
def z84_22:LC:=.seq z84_23 z84_25
def z84_21:LC:=.loop z84_22
def z84_20:LC:=.block 2 z84_21
def z84_28:LC:=.seq (.stm [2,3,5,6,8,9,10] [kM 73 5,kM 74 12,kM 75 7,sd 76 (.sub 74 75),kM 77 13,kF 78 11 0,kL 79 1 78,sd 80 (.conv .i64 false 79),kF 81 11 1,kL 82 1 81,sd 83 (.conv .i64 false 82),kF 84 11 2,kL 85 1 84,sd 86 (.conv .i64 false 85),kF 87 11 3,kL 88 1 87,sd 89 (.conv .i64 false 88),sd 90 (.bslice (.int .i64) [76,77,80,83,86,89]),sd 91 (.call 91 [90]),sd 92 (.app (.int .u8) 73 91),kM 93 14,sd 94 (.app (.int .u8) 92 93),kM 5 94]) (.stm [2,3,5,6,7,8,9,10] [kM 95 6,sd 96 (.add 95 (ki 1)),kM 97 10,kM 6 96,kM 7 97])
def z84_19:LC:=.seq z84_20 z84_28
def z84_18:LC:=.seq (.stm [2,3,5,6,7,8,9,10,11,12,13,14] [kM 14 kn]) z84_19
def z84_17:LC:=.seq (.stm [2,3,5,6,7,8,9,10,11,12,13] [kM 36 10,kM 12 36,kM 13 (ki 0)]) z84_18
def z84_16:LC:=.seq (.stm [2,3,5,6,7,8,9,10,11] [kF 30 3 2,kL 31 1 30,kM 32 10,sd 33 (.ixS 6 31 32),kF 34 33 2,sd 35 (.load true 4 34),sd 11 (.zero [.int .u32 0,.int .u32 0,.int .u8 0,.int .u16 0]),sn (.store 4 11 35)]) z84_17
def z84_12:LC:=.seq z84_13 z84_16
def z84_11:LC:=.block 1 z84_12
def z84_8:LC:=.seq z84_9 z84_11
def z84_7:LC:=.loop z84_8
def z84_6:LC:=.block 0 z84_7
def z84_5:LC:=.seq (.stm [2,3,5,6,7,8,9,10] [kM 10 (ki 0)]) z84_6
def z84_32:LC:=.seq (.stm [4] [kM 4 kn]) .ret
def z84_31:LC:=.cond 99 z84_32 .skip
def z84_30:LC:=.seq (.stm [5,6,99] [kM 98 6,sd 99 (.eq 98 (ki 0))]) z84_31
def z84_33:LC:=.seq (.stm [4] [kM 100 6,sd 101 (.bslice (.int .i64) [100]),sd 102 (.call 49 [(k8 8),101]),kM 103 5,sd 104 (.app (.int .u8) 102 103),kM 4 104]) .ret
def z84_29:LC:=.seq z84_30 z84_33
def z84_4:LC:=.seq z84_5 z84_29
def z84_3:LC:=.seq (.stm [2,3,5,6,7,8,9] [sd 16 (.mkfn 118 [2,8,3]),kM 9 16]) z84_4
def z84_2:LC:=.seq (.stm [2,3,5,6,7,8] [sd 15 (.mkfn 117 [3]),sd 8 (.zero [.nilfn]),sn (.store 1 8 15)]) z84_3
def z84_1:LC:=.seq (.stm [2,3,5,6,7] [kM 6 (ki 0),kM 7 (ki 0)]) z84_2
def z84_0:LC:=.seq (.stm [2,3,5] [kM 5 kn]) z84_1
def z84:LC:=.seq (.stm [2,3] [sd 2 (.box 0),sd 3 (.box 1),kM 4 kn]) z84_0
theorem jeD:jaH Tryz.prog eqs0 88 z84 [.t 4] 105=true:=by kernel_rfl
def z85_7:LC:=.cond 37 (.stm [2,3,5,6] [kM 6 (ki 1)]) .skip
def z85_6:LC:=.seq (.stm [2,3,5,6,37] [kF 36 3 5,kL 37 1 36]) z85_7
def z85_5:LC:=.seq z85_6 (.stm [2,3,5] [kM 38 5,kF 39 3 3,kL 40 1 39,kF 41 3 4,kL 42 1 41,kM 43 6,sd 44 (.bslice (.int .i64) [40,42,43]),sd 45 (.call 49 [(k8 2),44]),sd 46 (.app (.int .u8) 38 45),kM 5 46])
def z85_4:LC:=.seq (.stm [2,3,5,6] [kM 6 (ki 0)]) z85_5
def z85_3:LC:=.cond 35 z85_4 .skip
def z85_2:LC:=.seq (.stm [2,3,5,35] [kF 17 3 3,kL 18 1 17,kF 19 2 3,kL 20 1 19,sd 21 (.cmp .neq 18 20),kM 22 21,.g 22 false [kF 23 3 4,kL 24 1 23,kF 25 2 4,kL 26 1 25,sd 27 (.cmp .neq 24 26)] 28 kt 27,kM 29 28,.g 29 false [kF 30 3 5,kL 31 1 30,kF 32 2 5,kL 33 1 32,sd 34 (.cmpB true 31 33)] 35 kt 34]) z85_3
def z85_11:LC:=.seq (.stm [2,3,5,7] [kF 53 3 7,kL 54 1 53,sd 55 (.s2b 54),sd 56 (.call 83 [55]),kM 52 56,sd 57 (.ext 52 0),sd 58 (.ext 52 1),kM 7 57,kM 8 58]) (.stm [2,3,5] [kM 59 5,sd 60 (.bslice (.int .u8) [(k8 3)]),sd 61 (.app (.int .u8) 59 60),kM 62 7,sd 63 (.app (.int .u8) 61 62),kM 5 63])
def z85_10:LC:=.cond 51 z85_11 .skip
def z85_9:LC:=.seq (.stm [2,3,5,51] [kF 47 3 7,kL 48 1 47,kF 49 2 7,kL 50 1 49,sd 51 (.cmp .neq 48 50)]) z85_10
def z85_14:LC:=.cond 68 (.stm [2,3,5] [kM 69 5,kF 70 3 6,kL 71 1 70,sd 72 (.conv .i64 false 71),sd 73 (.bslice (.int .i64) [72]),sd 74 (.call 49 [(k8 4),73]),sd 75 (.app (.int .u8) 69 74),kM 5 75]) .skip
def z85_13:LC:=.seq (.stm [2,3,5,68] [kF 64 3 6,kL 65 1 64,kF 66 2 6,kL 67 1 66,sd 68 (.cmp .neq 65 67)]) z85_14
def z85_24:LC:=.cond 106 .skip (.exit 0)
def z85_23:LC:=.seq (.reg [2,3,5,9,106] [kR 0 82 (.mov 9),kR 1 83 (.fa 3 8),kR 2 84 (.ld 1 83),kR 3 85 (.len false 84),kR 4 86 (.lt 82 85),kR 5 87 (.mov 86),⟨6,some 88,some (87,true),.mov 9,false,false⟩,⟨7,some 89,some (87,true),.faddr 2 8,false,false⟩,⟨8,some 90,some (87,true),.load false 1 89,false,false⟩,⟨9,some 91,some (87,true),.len false 90,false,false⟩,⟨10,some 92,some (87,true),.lt 88 91,false,false⟩,kR 11 93 (.pick 87 92 kf),kR 12 94 (.mov 93),⟨13,some 95,some (94,true),.faddr 3 8,false,false⟩,⟨14,some 96,some (94,true),.load false 1 95,false,false⟩,⟨15,some 97,some (94,true),.mov 9,false,false⟩,⟨16,some 98,some (94,true),.ixS 1 96 97,false,false⟩,⟨17,some 99,some (94,true),.load false 1 98,false,false⟩,⟨18,some 100,some (94,true),.faddr 2 8,false,false⟩,⟨19,some 101,some (94,true),.load false 1 100,false,false⟩,⟨20,some 102,some (94,true),.mov 9,false,false⟩,⟨21,some 103,some (94,true),.ixS 1 101 102,false,false⟩,⟨22,some 104,some (94,true),.load false 1 103,false,false⟩,⟨23,some 105,some (94,true),.eq 99 104,false,false⟩,kR 24 106 (.pick 94 105 kf)]) z85_24
def z85_25:LC:=.block 1 (.stm [2,3,5,9] [kM 107 9,sd 108 (.add 107 (ki 1)),kM 9 108])
def z85_22:LC:=.seq z85_23 z85_25
def z85_21:LC:=.loop z85_22
def z85_20:LC:=.block 0 z85_21
def z85_32:LC:=.cond 125 .skip (.exit 2)
def z85_36:LC:=.seq (.stm [2,3,5,12,122,123,124] [kM 129 11,sd 130 (.s2b 129),sd 131 (.call 83 [130]),kM 128 131,sd 132 (.ext 128 0),sd 133 (.ext 128 1),kM 12 132,kM 13 133]) (.stm [2,3,5,122,123,124] [kM 134 5,kM 135 12,sd 136 (.app (.int .u8) 134 135),kM 5 136])
def z85_35:LC:=.seq (.stm [2,3,5,11,122,123,124] [sd 126 (.ixS 1 122 124),kL 127 1 126,kM 11 127]) z85_36
def z85_34:LC:=.block 3 z85_35
def z85_33:LC:=.seq z85_34 (.stm [2,3,5,122,123,124] [sd 137 (.add 124 (ki 1)),kM 124 137])
def z85_31:LC:=.seq z85_32 z85_33
def z85_30:LC:=.seq (.stm [2,3,5,122,123,124,125] [sd 125 (.lt 124 123)]) z85_31
def z85_29:LC:=.loop z85_30
def z85_28:LC:=.block 2 z85_29
def z85_27:LC:=.seq (.stm [2,3,5,122,123,124] [kF 119 3 8,kL 120 1 119,kM 121 9,sd 122 (.sl false 1 120 (some 121) none none),sd 123 (.len false 122),kM 124 (ki 0)]) z85_28
def z85_26:LC:=.seq (.stm [2,3,5,9] [kM 109 5,kM 110 9,kF 111 3 8,kL 112 1 111,sd 113 (.len false 112),kM 114 9,sd 115 (.sub 113 114),sd 116 (.bslice (.int .i64) [110,115]),sd 117 (.call 49 [(k8 5),116]),sd 118 (.app (.int .u8) 109 117),kM 5 118]) z85_27
def z85_19:LC:=.seq z85_20 z85_26
def z85_18:LC:=.seq (.stm [2,3,5,9] [kM 9 (ki 0)]) z85_19
def z85_17:LC:=.cond 81 z85_18 .skip
def z85_16:LC:=.seq (.stm [2,3,5,81] [kF 76 3 8,kL 77 1 76,kF 78 2 8,kL 79 1 78,sd 80 (.call 84 [77,79]),sd 81 (.un .not 80)]) z85_17
def z85_42:LC:=.seq (.stm [2,3,5,14] [kM 148 5,kM 149 14,sd 150 (.ari .mul false (ki 2) 149),sd 151 (.sub 150 (ki 1)),kM 152 14,sd 153 (.ari .mul false (ki (-2)) 152),sd 154 (.mm true 151 153),sd 155 (.bslice (.int .i64) [154]),sd 156 (.call 49 [(k8 6),155]),sd 157 (.app (.int .u8) 148 156),kM 5 157]) (.stm [2,3,5] [sd 158 (.load true 9 2),kM 159 14,sd 160 (.call 65 [158,159]),kF 161 2 2,sn (.store 1 161 160)])
def z85_41:LC:=.cond 147 z85_42 .skip
def z85_40:LC:=.seq (.stm [2,3,5,14,147] [kM 146 14,sd 147 (.cmp .neq 146 (ki 0))]) z85_41
def z85_39:LC:=.seq (.stm [2,3,5,14] [sd 143 (.load true 9 2),sd 144 (.load true 9 3),sd 145 (.call 86 [143,144]),kM 14 145]) z85_40
def z85_45:LC:=.seq (.stm [4] [kM 171 5,kM 172 15,sd 173 (.load true 9 3),sd 174 (.call 88 [172,173]),sd 175 (.app (.int .u8) 171 174),kM 4 175]) .ret
def z85_44:LC:=.seq (.stm [3,5,15] [kM 168 5,kM 169 16,sd 170 (.app (.int .u8) 168 169),kM 5 170]) z85_45
def z85_43:LC:=.seq (.stm [3,5,15,16] [sd 163 (.load true 9 2),sd 164 (.load true 9 3),sd 165 (.call 87 [163,164]),kM 162 165,sd 166 (.ext 162 0),sd 167 (.ext 162 1),kM 15 166,kM 16 167]) z85_44
def z85_38:LC:=.seq z85_39 z85_43
def z85_37:LC:=.seq (.stm [2,3,5] [sd 138 (.load true 9 2),kF 139 3 8,kL 140 1 139,sd 141 (.call 85 [138,140]),kF 142 2 2,sn (.store 1 142 141)]) z85_38
def z85_15:LC:=.seq z85_16 z85_37
def z85_12:LC:=.seq z85_13 z85_15
def z85_8:LC:=.seq z85_9 z85_12
def z85_1:LC:=.seq z85_2 z85_8
def z85_0:LC:=.seq (.stm [2,3,5] [kM 5 kn]) z85_1
def z85:LC:=.seq (.stm [2,3] [sd 2 (.box 0),sd 3 (.box 1),kM 4 kn]) z85_0
theorem jf0:jaH Tryz.prog eqs0 47 z85 [.t 4] 176=true:=by kernel_rfl
def z86_3:LC:=.seq (.stm [2,3] [kM 2 kn,kM 3 (ki 1)]) .ret
def z86_2:LC:=.cond 8 z86_3 .skip
def z86_1:LC:=.seq (.stm [1,8] [sd 6 (.load true 9 1),sd 7 (.call 22 [6]),sd 8 (.un .not 7)]) z86_2
def z86_5:LC:=.seq (.reg [2,3] [kR 0 17 (.fa 1 0),kR 1 18 (.ld 1 17),kR 2 19 (.fa 1 1),kR 3 20 (.ld 1 19),kR 6 23 (.load true 9 4),kR 7 24 (.load true 9 1),kR 4 21 (.bslice (.int .i64) [18,20]),⟨5,some 22,none,.call 49 [(k8 1),21],true,true⟩,⟨8,some 25,none,.call 47 [23,24],false,true⟩,⟨9,some 26,none,.app (.int .u8) 22 25,false,true⟩,kR 10 2 (.mov 26),kR 11 3 (.mov (ki 0))]) .ret
def z86_4:LC:=.seq (.stm [1,4] [kF 10 1 0,kL 11 1 10,kF 12 1 1,kL 13 1 12,sd 14 (.call 48 [11,13]),kM 9 14,sd 15 (.ext 9 0),sd 16 (.ext 9 1),sd 4 (.zero [.int .i64 0,.int .i64 0,.nils,.int .i64 0,.int .i64 0,.bool false,.int .u8 0,.str (bs []),.nils]),sn (.store 9 4 15),kM 5 16]) z86_5
def z86_0:LC:=.seq z86_1 z86_4
def z86:LC:=.seq (.stm [1] [sd 1 (.box 0),kM 2 kn,kM 3 (ki 0)]) z86_0
theorem jgq:jaH Tryz.prog eqs0 17 z86 [.t 2,.t 3] 27=true:=by kernel_rfl
def z87_4:LC:=.seq (.stm [4,5] [kM 4 kn,kM 5 (ki 1)]) .ret
def z87_7:LC:=.seq (.stm [4,5] [sd 28 (.load true 9 3),sd 29 (.call 17 [28]),sd 30 (.ext 29 0),sd 31 (.ext 29 1),kM 4 30,kM 5 31]) .ret
def z87_6:LC:=.cond 15 z87_7 .skip
def z87_5:LC:=.seq (.stm [2,3,15] [kF 16 2 0,kL 17 1 16,kF 18 3 0,kL 19 1 18,sd 20 (.cmp .neq 17 19),kM 21 20,.g 21 false [kF 22 2 1,kL 23 1 22,kF 24 3 1,kL 25 1 24,sd 26 (.cmp .neq 23 25)] 27 kt 26,kM 15 27]) z87_6
def z87_3:LC:=.cond 6 z87_4 z87_5
def z87_2:LC:=.seq (.stm [2,3,6] [sd 7 (.load true 9 2),sd 8 (.call 22 [7]),sd 9 (.un .not 8),kM 10 9,.g 10 false [sd 11 (.load true 9 3),sd 12 (.call 22 [11]),sd 13 (.un .not 12)] 14 kt 13,kM 6 14]) z87_3
def z87_1:LC:=.block 0 z87_2
def z87_8:LC:=.seq (.stm [4,5] [sd 32 (.load true 9 2),sd 33 (.load true 9 3),sd 34 (.call 47 [32,33]),kM 4 34,kM 5 (ki 0)]) .ret
def z87_0:LC:=.seq z87_1 z87_8
def z87:LC:=.seq (.stm [2,3] [sd 2 (.box 0),sd 3 (.box 1),kM 4 kn,kM 5 (ki 0)]) z87_0
theorem je8:jaH Tryz.prog eqs0 16 z87 [.t 4,.t 5] 35=true:=by kernel_rfl
end
end Go.Proofs.YtcfkfgkndncanaaGreatDoor
