/- Texts of this claim, merged by a program of this claim: KBytes, KScr, KDif. -/
import Derived.Test.YtcfkfgkndncanaaGreatDoorMt5
namespace Go.Proofs.YtcfkfgkndncanaaGreatDoor
set_option linter.unusedVariables false
set_option linter.unusedSimpArgs false
section
open Go.RowKit
set_option maxRecDepth 100000
def z67_6:LC:=.cond 5 .skip (.exit 0)
def z67_5:LC:=.seq (.stm [0,3,5] [sd 4 (.mov 0),sd 5 (.cmp .geq 4 (.c (.int .u64 128)))]) z67_6
def z67_8:LC:=.seq (.stm [0,3] [sd 6 (.mov 3),sd 7 (.mov 0),sd 8 (.conv .u8 true 7),sd 9 (.ari .or false 8 (.c (.int .u8 128))),sd 10 (.bslice (.int .u8) [9]),sd 11 (.app (.int .u8) 6 10),sd 3 (.mov 11)]) (.stm [0,3] [sd 12 (.mov 0),sd 13 (.ari .shr false 12 (.c (.int .u64 7))),sd 0 (.mov 13)])
def z67_7:LC:=.block 1 z67_8
def z67_4:LC:=.seq z67_5 z67_7
def z67_3:LC:=.loop z67_4
def z67_2:LC:=.block 0 z67_3
def z67_9:LC:=.seq (.stm [2] [sd 14 (.mov 3),sd 15 (.mov 0),sd 16 (.conv .u8 true 15),sd 17 (.bslice (.int .u8) [16]),sd 18 (.app (.int .u8) 14 17),sd 2 (.mov 18)]) .ret
def z67_1:LC:=.seq z67_2 z67_9
def z67_0:LC:=.seq (.stm [0,3] [sd 3 (.mov (.c .nils))]) z67_1
def z67:LC:=.seq (.stm [0] [sd 2 (.mov (.c .nils))]) z67_0
theorem je1:jaL Tryz.prog eqs0 113 z67 [.t 2] 19=true:=by kernel_rfl
def z68_0:LC:=.seq (.stm [4] [sd 5 (.mov 0),sd 6 (.bslice (.int .u8) [5]),sd 7 (.mov 1),sd 8 (.call 91 [7]),sd 9 (.app (.int .u8) 6 8),sd 4 (.mov 9)]) .ret
def z68:LC:=.seq (.stm [0,1] [sd 4 (.mov (.c .nils))]) z68_0
theorem jdd:jaL Tryz.prog eqs0 49 z68 [.t 4] 10=true:=by kernel_rfl
def z69_3:LC:=.seq (.stm [2,3] [sd 2 (.mov (.c .nils)),sd 3 (.mov (ki 4))]) .ret
def z69_2:LC:=.cond 6 z69_3 .skip
def z69_1:LC:=.seq (.stm [0,6] [sd 4 (.mov 0),sd 5 (.len false 4),sd 6 (.cmp .gtr 5 (ki 4096))]) z69_2
def z69_4:LC:=.seq (.stm [2,3] [sd 7 (.mov 0),sd 8 (.len false 7),sd 9 (.conv .u64 true 8),sd 10 (.call 113 [9]),sd 11 (.mov 0),sd 12 (.app (.int .u8) 10 11),sd 2 (.mov 12),sd 3 (.mov (ki 0))]) .ret
def z69_0:LC:=.seq z69_1 z69_4
def z69:LC:=.seq (.stm [0] [sd 2 (.mov (.c .nils)),sd 3 (.mov (ki 0))]) z69_0
theorem jgW:jaL Tryz.prog eqs0 83 z69 [.t 2,.t 3] 13=true:=by kernel_rfl
def z70_3:LC:=.seq (.stm [4] [sd 4 (.mov (.c (.bool false)))]) .ret
def z70_2:LC:=.cond 10 z70_3 .skip
def z70_1:LC:=.seq (.stm [0,1,10] [sd 6 (.mov 0),sd 7 (.len false 6),sd 8 (.mov 1),sd 9 (.len false 8),sd 10 (.cmp .neq 7 9)]) z70_2
def z70_10:LC:=.cond 14 .skip (.exit 0)
def z70_16:LC:=.seq (.stm [4] [sd 4 (.mov (.c (.bool false)))]) .ret
def z70_15:LC:=.cond 24 z70_16 .skip
def z70_14:LC:=.seq (.reg [0,1,12,13,24] [⟨0,some 16,none,.mov 0,false,false⟩,⟨1,some 17,none,.mov 5,false,false⟩,⟨2,some 18,none,.ixS 1 16 17,false,false⟩,⟨3,some 19,none,.load false 1 18,false,false⟩,⟨4,some 20,none,.mov 1,false,false⟩,⟨5,some 21,none,.mov 5,false,false⟩,⟨6,some 22,none,.ixS 1 20 21,false,false⟩,⟨7,some 23,none,.load false 1 22,false,false⟩,⟨8,some 24,none,.cmp .neq 19 23,false,false⟩]) z70_15
def z70_13:LC:=.seq (.stm [0,1,5,12,13] [sd 15 (.mov 13),sd 5 (.mov 15)]) z70_14
def z70_12:LC:=.block 1 z70_13
def z70_11:LC:=.seq z70_12 (.stm [0,1,12,13] [sd 25 (.ari .add false 13 (ki 1)),sd 13 (.mov 25)])
def z70_9:LC:=.seq z70_10 z70_11
def z70_8:LC:=.seq (.stm [0,1,12,13,14] [sd 14 (.cmp .lss 13 12)]) z70_9
def z70_7:LC:=.loop z70_8
def z70_6:LC:=.block 0 z70_7
def z70_5:LC:=.seq (.stm [0,1,12,13] [sd 11 (.mov 0),sd 12 (.len false 11),sd 13 (.mov (ki 0))]) z70_6
def z70_17:LC:=.seq (.stm [4] [sd 4 (.mov (.c (.bool true)))]) .ret
def z70_4:LC:=.seq z70_5 z70_17
def z70_0:LC:=.seq z70_1 z70_4
def z70:LC:=.seq (.stm [0,1] [sd 4 (.mov (.c (.bool false)))]) z70_0
theorem jpX:jaL Tryz.prog eqs0 14 z70 [.t 4] 26=true:=by kernel_rfl
end
section
open Go.RowKit
set_option maxRecDepth 100000
def z71_3:LC:=.seq (.stm [2] [sd 2 (.mov (.c (.bool false)))]) .ret
def z71_2:LC:=.cond 63 z71_3 .skip
def z71_1:LC:=.seq (.stm [1,63] [sd 5 (.faddr 1 0),sd 6 (.load false 1 5),sd 7 (.faddr 1 1),sd 8 (.load false 1 7),sd 9 (.faddr 1 2),sd 10 (.load false 1 9),sd 11 (.build [.int .i64 0,.int .i64 0,.nils] [(0,1,6),(1,1,8),(2,1,10)]),sd 12 (.call 56 [11]),sd 13 (.un .not 12),sd 14 (.mov 13),.g 14 false [sd 15 (.faddr 1 2),sd 16 (.load false 1 15),sd 17 (.faddr 1 8),sd 18 (.load false 1 17),sd 19 (.call 57 [16,18]),sd 20 (.un .not 19)] 21 (.c (.bool true)) 20,sd 22 (.mov 21),.g 22 false [sd 23 (.faddr 1 3),sd 24 (.load false 1 23),sd 25 (.cmp .lss 24 (ki 0))] 26 (.c (.bool true)) 25,sd 27 (.mov 26),.g 27 false [sd 28 (.faddr 1 3),sd 29 (.load false 1 28),sd 30 (.faddr 1 0),sd 31 (.load false 1 30),sd 32 (.cmp .geq 29 31)] 33 (.c (.bool true)) 32,sd 34 (.mov 33),.g 34 false [sd 35 (.faddr 1 4),sd 36 (.load false 1 35),sd 37 (.cmp .lss 36 (ki 0))] 38 (.c (.bool true)) 37,sd 39 (.mov 38),.g 39 false [sd 40 (.faddr 1 4),sd 41 (.load false 1 40),sd 42 (.faddr 1 1),sd 43 (.load false 1 42),sd 44 (.cmp .geq 41 43)] 45 (.c (.bool true)) 44,sd 46 (.mov 45),.g 46 false [sd 47 (.faddr 1 6),sd 48 (.load false 1 47),sd 49 (.cmp .gtr 48 (.c (.int .u8 2)))] 50 (.c (.bool true)) 49,sd 51 (.mov 50),.g 51 false [sd 52 (.faddr 1 7),sd 53 (.load false 1 52),sd 54 (.len true 53),sd 55 (.cmp .gtr 54 (ki 64))] 56 (.c (.bool true)) 55,sd 57 (.mov 56),.b 57 false [sd 58 (.faddr 1 7),sd 59 (.load false 1 58),sd 60 (.s2b 59),sd 61 (.call 58 [60]),sd 62 (.un .not 61)] 63 (.c (.bool true)) 62]) z71_2
def z71_10:LC:=.cond 68 .skip (.exit 0)
def z71_15:LC:=.seq (.stm [2] [sd 2 (.mov (.c (.bool false)))]) .ret
def z71_14:LC:=.cond 72 z71_15 .skip
def z71_13:LC:=.seq (.stm [66,72] [sd 70 (.mov 4),sd 71 (.call 59 [70]),sd 72 (.cmp .eql 71 (ki 0))]) z71_14
def z71_12:LC:=.seq (.stm [4,66] [sd 69 (.ext 67 2),sd 4 (.mov 69)]) z71_13
def z71_11:LC:=.block 1 z71_12
def z71_9:LC:=.seq z71_10 z71_11
def z71_8:LC:=.seq (.stm [66,67,68] [sd 67 (.nxt 66),sd 68 (.ext 67 0)]) z71_9
def z71_7:LC:=.loop z71_8
def z71_6:LC:=.block 0 z71_7
def z71_5:LC:=.seq (.stm [66] [sd 64 (.faddr 1 7),sd 65 (.load false 1 64),sd 66 (.rng 65)]) z71_6
def z71_16:LC:=.seq (.stm [2] [sd 2 (.mov (.c (.bool true)))]) .ret
def z71_4:LC:=.seq z71_5 z71_16
def z71_0:LC:=.seq z71_1 z71_4
def z71:LC:=.seq (.stm [1] [sd 1 (.box 0),sd 2 (.mov (.c (.bool false)))]) z71_0
theorem jdE:jaL Tryz.prog eqs0 22 z71 [.t 2] 73=true:=by kernel_rfl
def z72_4:LC:=.seq (.stm [2] [sd 2 (.mov (.c (.bool false)))]) .ret
def z72_3:LC:=.cond 19 z72_4 .skip
def z72_2:LC:=.seq (.stm [1,19] [sd 18 (.mov 4),sd 19 (.un .not 18)]) z72_3
def z72_1:LC:=.seq (.stm [1,4] [sd 8 (.faddr 1 0),sd 9 (.load false 1 8),sd 10 (.faddr 1 1),sd 11 (.load false 1 10),sd 12 (.faddr 1 2),sd 13 (.load false 1 12),sd 14 (.build [.int .i64 0,.int .i64 0,.nils] [(0,1,9),(1,1,11),(2,1,13)]),sd 15 (.call 42 [14]),sd 7 (.mov 15),sd 16 (.ext 7 0),sd 17 (.ext 7 1),sd 3 (.mov 16),sd 4 (.mov 17)]) z72_2
def z72_8:LC:=.seq (.stm [2] [sd 2 (.mov (.c (.bool false)))]) .ret
def z72_7:LC:=.cond 67 z72_8 .skip
def z72_6:LC:=.seq (.stm [1,67] [sd 20 (.faddr 1 2),sd 21 (.load false 1 20),sd 22 (.faddr 1 8),sd 23 (.load false 1 22),sd 24 (.call 43 [21,23]),sd 25 (.un .not 24),sd 26 (.mov 25),.g 26 false [sd 27 (.faddr 1 3),sd 28 (.load false 1 27),sd 29 (.cmp .lss 28 (ki 0))] 30 (.c (.bool true)) 29,sd 31 (.mov 30),.g 31 false [sd 32 (.faddr 1 3),sd 33 (.load false 1 32),sd 34 (.faddr 1 0),sd 35 (.load false 1 34),sd 36 (.cmp .geq 33 35)] 37 (.c (.bool true)) 36,sd 38 (.mov 37),.g 38 false [sd 39 (.faddr 1 4),sd 40 (.load false 1 39),sd 41 (.cmp .lss 40 (ki 0))] 42 (.c (.bool true)) 41,sd 43 (.mov 42),.g 43 false [sd 44 (.faddr 1 4),sd 45 (.load false 1 44),sd 46 (.faddr 1 1),sd 47 (.load false 1 46),sd 48 (.cmp .geq 45 47)] 49 (.c (.bool true)) 48,sd 50 (.mov 49),.g 50 false [sd 51 (.faddr 1 6),sd 52 (.load false 1 51),sd 53 (.cmp .gtr 52 (.c (.int .u8 2)))] 54 (.c (.bool true)) 53,sd 55 (.mov 54),.g 55 false [sd 56 (.faddr 1 7),sd 57 (.load false 1 56),sd 58 (.len true 57),sd 59 (.cmp .gtr 58 (ki 64))] 60 (.c (.bool true)) 59,sd 61 (.mov 60),.b 61 false [sd 62 (.faddr 1 7),sd 63 (.load false 1 62),sd 64 (.s2b 63),sd 65 (.call 44 [64]),sd 66 (.un .not 65)] 67 (.c (.bool true)) 66]) z72_7
def z72_16:LC:=.cond 75 .skip (.exit 0)
def z72_22:LC:=.seq (.stm [2] [sd 2 (.mov (.c (.bool false)))]) .ret
def z72_21:LC:=.cond 82 z72_22 .skip
def z72_20:LC:=.seq (.stm [5,73,74,82] [sd 77 (.mov 5),sd 78 (.mov 6),sd 79 (.ixS 1 77 78),sd 80 (.load false 1 79),sd 81 (.call 46 [80]),sd 82 (.cmp .eql 81 (ki 0))]) z72_21
def z72_19:LC:=.seq (.stm [5,6,73,74] [sd 76 (.mov 74),sd 6 (.mov 76)]) z72_20
def z72_18:LC:=.block 1 z72_19
def z72_17:LC:=.seq z72_18 (.stm [5,73,74] [sd 83 (.ari .add false 74 (ki 1)),sd 74 (.mov 83)])
def z72_15:LC:=.seq z72_16 z72_17
def z72_14:LC:=.seq (.stm [5,73,74,75] [sd 75 (.cmp .lss 74 73)]) z72_15
def z72_13:LC:=.loop z72_14
def z72_12:LC:=.block 0 z72_13
def z72_11:LC:=.seq (.stm [5,73,74] [sd 72 (.mov 5),sd 73 (.len false 72),sd 74 (.mov (ki 0))]) z72_12
def z72_23:LC:=.seq (.stm [2] [sd 2 (.mov (.c (.bool true)))]) .ret
def z72_10:LC:=.seq z72_11 z72_23
def z72_9:LC:=.seq (.stm [5] [sd 68 (.faddr 1 7),sd 69 (.load false 1 68),sd 70 (.s2b 69),sd 71 (.call 45 [70]),sd 5 (.mov 71)]) z72_10
def z72_5:LC:=.seq z72_6 z72_9
def z72_0:LC:=.seq z72_1 z72_5
def z72:LC:=.seq (.stm [1] [sd 1 (.box 0),sd 2 (.mov (.c (.bool false)))]) z72_0
theorem jjY:jaL Tryz.prog eqs0 15 z72 [.t 2] 84=true:=by kernel_rfl
def z73_0:LC:=.seq (.stm [4] [sd 5 (.faddr 2 0),sd 6 (.load false 1 5),sd 7 (.faddr 3 0),sd 8 (.load false 1 7),sd 9 (.cmp .eql 6 8),sd 10 (.mov 9),.g 10 true [sd 11 (.faddr 2 1),sd 12 (.load false 1 11),sd 13 (.faddr 3 1),sd 14 (.load false 1 13),sd 15 (.cmp .eql 12 14)] 16 15 (.c (.bool false)),sd 17 (.mov 16),.g 17 true [sd 18 (.faddr 2 3),sd 19 (.load false 1 18),sd 20 (.faddr 3 3),sd 21 (.load false 1 20),sd 22 (.cmp .eql 19 21)] 23 22 (.c (.bool false)),sd 24 (.mov 23),.g 24 true [sd 25 (.faddr 2 4),sd 26 (.load false 1 25),sd 27 (.faddr 3 4),sd 28 (.load false 1 27),sd 29 (.cmp .eql 26 28)] 30 29 (.c (.bool false)),sd 31 (.mov 30),.g 31 true [sd 32 (.faddr 2 5),sd 33 (.load false 1 32),sd 34 (.faddr 3 5),sd 35 (.load false 1 34),sd 36 (.cmpB false 33 35)] 37 36 (.c (.bool false)),sd 38 (.mov 37),.g 38 true [sd 39 (.faddr 2 6),sd 40 (.load false 1 39),sd 41 (.faddr 3 6),sd 42 (.load false 1 41),sd 43 (.cmp .eql 40 42)] 44 43 (.c (.bool false)),sd 45 (.mov 44),.g 45 true [sd 46 (.faddr 2 7),sd 47 (.load false 1 46),sd 48 (.faddr 3 7),sd 49 (.load false 1 48),sd 50 (.cmp .eql 47 49)] 51 50 (.c (.bool false)),sd 52 (.mov 51),.g 52 true [sd 53 (.faddr 2 8),sd 54 (.load false 1 53),sd 55 (.faddr 3 8),sd 56 (.load false 1 55),sd 57 (.call 40 [54,56])] 58 57 (.c (.bool false)),sd 59 (.mov 58),.g 59 true [sd 60 (.faddr 2 2),sd 61 (.load false 1 60),sd 62 (.build [.int .i64 0,.int .i64 0,.nils] [(2,1,61)]),sd 63 (.faddr 3 2),sd 64 (.load false 1 63),sd 65 (.build [.int .i64 0,.int .i64 0,.nils] [(2,1,64)]),sd 66 (.call 41 [62,65])] 67 66 (.c (.bool false)),sd 4 (.mov 67)]) .ret
def z73:LC:=.seq (.stm [2,3] [sd 2 (.box 0),sd 3 (.box 1),sd 4 (.mov (.c (.bool false)))]) z73_0
theorem jk0:jaL Tryz.prog eqs0 13 z73 [.t 4] 68=true:=by kernel_rfl
def z74_0:LC:=.seq (.stm [2] [sd 3 (.faddr 1 2),sd 4 (.load false 1 3),sd 5 (.len false 4),sd 6 (.cmp .gtr 5 (ki 3000)),sd 7 (.mov 6),.g 7 false [sd 8 (.faddr 1 7),sd 9 (.load false 1 8),sd 10 (.len true 9),sd 11 (.cmp .gtr 10 (ki 1000))] 12 (.c (.bool true)) 11,sd 13 (.mov 12),.g 13 false [sd 14 (.faddr 1 8),sd 15 (.load false 1 14),sd 16 (.len false 15),sd 17 (.cmp .gtr 16 (ki 1000))] 18 (.c (.bool true)) 17,sd 2 (.mov 18)]) .ret
def z74:LC:=.seq (.stm [1] [sd 1 (.box 0),sd 2 (.mov (.c (.bool false)))]) z74_0
theorem jjZ:jaL Tryz.prog eqs0 7 z74 [.t 2] 19=true:=by kernel_rfl
end
section
open Go.RowKit
set_option maxRecDepth 100000
def z75_7:LC:=.cond 14 .skip (.exit 0)
def z75_13:LC:=.cond 23 (.stm [1,2,5,12,13] [sd 24 (.mov 5),sd 25 (.mov 6),sd 26 (.mov 1),sd 27 (.faddr 2 8),sd 28 (.load false 1 27),sd 29 (.mov 7),sd 30 (.ari .sub true 29 (.c (.int .u16 1))),sd 31 (.ixS 1 28 30),sd 32 (.load false 1 31),sd 33 (.call 114 [26,32]),sd 34 (.ari .add false 33 (ki 1)),sd 35 (.conv .u16 true 34),sd 36 (.ixS 6 24 25),sd 37 (.faddr 36 2),sd 38 (.faddr 37 3),sn (.store 1 38 35)]) .skip
def z75_12:LC:=.seq (.stm [1,2,5,6,7,12,13,23] [sd 22 (.mov 7),sd 23 (.cmp .gtr 22 (.c (.int .u16 0)))]) z75_13
def z75_11:LC:=.seq (.stm [1,2,5,6,7,12,13] [sd 16 (.mov 5),sd 17 (.mov 6),sd 18 (.ixS 6 16 17),sd 19 (.faddr 18 2),sd 20 (.faddr 19 3),sd 21 (.load false 1 20),sd 7 (.mov 21)]) z75_12
def z75_10:LC:=.seq (.stm [1,2,5,6,12,13] [sd 15 (.mov 13),sd 6 (.mov 15)]) z75_11
def z75_9:LC:=.block 1 z75_10
def z75_8:LC:=.seq z75_9 (.stm [1,2,5,12,13] [sd 39 (.ari .add false 13 (ki 1)),sd 13 (.mov 39)])
def z75_6:LC:=.seq z75_7 z75_8
def z75_5:LC:=.seq (.stm [1,2,5,12,13,14] [sd 14 (.cmp .lss 13 12)]) z75_6
def z75_4:LC:=.loop z75_5
def z75_3:LC:=.block 0 z75_4
def z75_2:LC:=.seq (.stm [1,2,5,12,13] [sd 11 (.mov 5),sd 12 (.len false 11),sd 13 (.mov (ki 0))]) z75_3
def z75_14:LC:=.seq (.stm [4] [sd 40 (.mov 5),sd 4 (.mov 40)]) .ret
def z75_1:LC:=.seq z75_2 z75_14
def z75_0:LC:=.seq (.stm [1,2,5] [sd 8 (.faddr 2 2),sd 9 (.load false 1 8),sd 10 (.call 24 [9]),sd 5 (.mov 10)]) z75_1
def z75:LC:=.seq (.stm [1,2] [sd 2 (.box 0),sd 4 (.mov (.c .nils))]) z75_0
theorem jdX:jaL Tryz.prog eqs0 85 z75 [.t 4] 41=true:=by kernel_rfl
def z76_8:LC:=.cond 20 .skip (.exit 0)
def z76_15:LC:=.cond 38 (.stm [3,7,8,10,11,17,18,19] [sd 39 (.faddr 3 2),sd 40 (.load false 1 39),sd 41 (.mov 9),sd 42 (.mov 8),sd 43 (.ari .add false 41 42),sd 44 (.ixS 6 40 43),sd 45 (.load true 6 44),sn (.store 6 11 45)]) .skip
def z76_14:LC:=.seq (.stm [3,7,8,9,10,11,17,18,19,38] [sd 26 (.mov 9),sd 27 (.mov 8),sd 28 (.ari .add false 26 27),sd 29 (.cmp .geq 28 (ki 0)),sd 30 (.mov 29),.g 30 true [sd 31 (.mov 9),sd 32 (.mov 8),sd 33 (.ari .add false 31 32),sd 34 (.faddr 3 2),sd 35 (.load false 1 34),sd 36 (.len false 35),sd 37 (.cmp .lss 33 36)] 38 37 (.c (.bool false))]) z76_15
def z76_17:LC:=.cond 48 (.stm [3,7,8,17,18,19] [sd 49 (.mov 7),sd 50 (.ari .add false 49 (ki 1)),sd 7 (.mov 50)]) .skip
def z76_16:LC:=.seq (.stm [3,7,8,17,18,19,48] [sd 46 (.load true 6 11),sd 47 (.load true 6 10),sd 48 (.eqA [.i32,.u8,.u32,.u32,.u8,.u16] true 46 47)]) z76_17
def z76_13:LC:=.seq z76_14 z76_16
def z76_12:LC:=.seq (.stm [3,7,8,9,10,11,17,18,19] [sd 24 (.build [.int .u32 0,.int .u32 0,.int .u8 0,.int .u16 0] []),sd 25 (.call 126 [24]),sd 11 (.zero [.int .i32 0,.int .u8 0,.int .u32 0,.int .u32 0,.int .u8 0,.int .u16 0]),sn (.store 6 11 25)]) z76_13
def z76_11:LC:=.seq (.stm [3,7,8,9,10,17,18,19] [sd 21 (.mov 19),sd 22 (.ixS 6 17 19),sd 23 (.load true 6 22),sd 10 (.zero [.int .i32 0,.int .u8 0,.int .u32 0,.int .u32 0,.int .u8 0,.int .u16 0]),sd 9 (.mov 21),sn (.store 6 10 23)]) z76_12
def z76_10:LC:=.block 1 z76_11
def z76_9:LC:=.seq z76_10 (.stm [3,7,8,17,18,19] [sd 51 (.ari .add false 19 (ki 1)),sd 19 (.mov 51)])
def z76_7:LC:=.seq z76_8 z76_9
def z76_6:LC:=.seq (.stm [3,7,8,17,18,19,20] [sd 20 (.cmp .lss 19 18)]) z76_7
def z76_5:LC:=.loop z76_6
def z76_4:LC:=.block 0 z76_5
def z76_3:LC:=.seq (.stm [3,7,8,17,18,19] [sd 16 (.faddr 4 2),sd 17 (.load false 1 16),sd 18 (.len false 17),sd 19 (.mov (ki 0))]) z76_4
def z76_18:LC:=.seq (.stm [6] [sd 52 (.mov 7),sd 6 (.mov 52)]) .ret
def z76_2:LC:=.seq z76_3 z76_18
def z76_1:LC:=.seq (.stm [3,4,7,8] [sd 12 (.mov 2),sd 13 (.faddr 3 0),sd 14 (.load false 1 13),sd 15 (.ari .mul false 12 14),sd 8 (.mov 15)]) z76_2
def z76_0:LC:=.seq (.stm [2,3,4,7] [sd 7 (.mov (ki 0))]) z76_1
def z76:LC:=.seq (.stm [2,3,4] [sd 3 (.box 0),sd 4 (.box 1),sd 6 (.mov (ki 0))]) z76_0
theorem jef:jaL Tryz.prog eqs0 115 z76 [.t 6] 53=true:=by kernel_rfl
def z77_7:LC:=.cond 17 .skip (.exit 0)
def z77_6:LC:=.seq (.stm [2,3,5,6,7,17] [sd 14 (.mov 7),sd 15 (.faddr 2 1),sd 16 (.load false 1 15),sd 17 (.cmp .lss 14 16)]) z77_7
def z77_15:LC:=.cond 26 .skip (.exit 2)
def z77_21:LC:=.cond 35 (.stm [2,3,5,6,7,23,24,25] [sd 36 (.mov 9),sd 37 (.mov 10),sd 5 (.mov 36),sd 6 (.mov 37)]) .skip
def z77_20:LC:=.seq (.stm [2,3,5,6,7,9,10,23,24,25,35] [sd 33 (.mov 10),sd 34 (.mov 6),sd 35 (.cmp .lss 33 34)]) z77_21
def z77_19:LC:=.seq (.stm [2,3,5,6,7,9,10,23,24,25] [sd 29 (.load true 9 2),sd 30 (.load true 9 3),sd 31 (.mov 9),sd 32 (.call 115 [29,30,31]),sd 10 (.mov 32)]) z77_20
def z77_18:LC:=.seq (.stm [2,3,5,6,7,9,23,24,25] [sd 27 (.ixS 1 23 25),sd 28 (.load false 1 27),sd 9 (.mov 28)]) z77_19
def z77_17:LC:=.block 3 z77_18
def z77_16:LC:=.seq z77_17 (.stm [2,3,5,6,7,23,24,25] [sd 38 (.ari .add false 25 (ki 1)),sd 25 (.mov 38)])
def z77_14:LC:=.seq z77_15 z77_16
def z77_13:LC:=.seq (.stm [2,3,5,6,7,23,24,25,26] [sd 26 (.cmp .lss 25 24)]) z77_14
def z77_12:LC:=.loop z77_13
def z77_11:LC:=.block 2 z77_12
def z77_10:LC:=.seq (.stm [2,3,5,6,7,23,24,25] [sd 20 (.mov 7),sd 21 (.mov 7),sd 22 (.un .neg 21),sd 23 (.bslice (.int .i64) [20,22]),sd 24 (.len false 23),sd 25 (.mov (ki 0))]) z77_11
def z77_9:LC:=.block 1 z77_10
def z77_8:LC:=.seq z77_9 (.stm [2,3,5,6,7] [sd 18 (.mov 7),sd 19 (.ari .add false 18 (ki 1)),sd 7 (.mov 19)])
def z77_5:LC:=.seq z77_6 z77_8
def z77_4:LC:=.loop z77_5
def z77_3:LC:=.block 0 z77_4
def z77_2:LC:=.seq (.stm [2,3,5,6,7] [sd 7 (.mov (ki 1))]) z77_3
def z77_22:LC:=.seq (.stm [4] [sd 39 (.mov 5),sd 4 (.mov 39)]) .ret
def z77_1:LC:=.seq z77_2 z77_22
def z77_0:LC:=.seq (.stm [2,3,5,6] [sd 11 (.load true 9 2),sd 12 (.load true 9 3),sd 13 (.call 115 [11,12,(ki 0)]),sd 5 (.mov (ki 0)),sd 6 (.mov 13)]) z77_1
def z77:LC:=.seq (.stm [2,3] [sd 2 (.box 0),sd 3 (.box 1),sd 4 (.mov (ki 0))]) z77_0
theorem jf1:jaL Tryz.prog eqs0 86 z77 [.t 4] 40=true:=by kernel_rfl
def z78_1:LC:=.seq (.stm [4] [sd 13 (.load true 3 5),sd 14 (.faddr 2 1),sd 15 (.load false 1 14),sd 16 (.ari .sub false 15 (ki 1)),sd 17 (.mov 1),sd 18 (.build [.int .u32 0,.int .u32 0,.int .u8 0,.int .u16 0] []),sd 19 (.call 103 [13,(ki 0),16,17,18]),sd 20 (.field 19 2 1 false),sd 4 (.mov 20)]) .ret
def z78_0:LC:=.seq (.stm [1,2,5] [sd 6 (.faddr 2 0),sd 7 (.load false 1 6),sd 8 (.faddr 2 1),sd 9 (.load false 1 8),sd 10 (.faddr 2 2),sd 11 (.load false 1 10),sd 12 (.build [.int .i64 0,.int .i64 0,.nils] [(0,1,7),(1,1,9),(2,1,11)]),sd 5 (.zero [.int .i64 0,.int .i64 0,.nils]),sn (.store 3 5 12)]) z78_1
def z78:LC:=.seq (.stm [1,2] [sd 2 (.box 0),sd 4 (.mov (.c .nils))]) z78_0
theorem jcJ:jaL Tryz.prog eqs0 65 z78 [.t 4] 21=true:=by kernel_rfl
def z79_0:LC:=.seq (.stm [4] [sd 5 (.faddr 2 2),sd 6 (.load false 1 5),sd 7 (.mov 1),sd 8 (.faddr 2 0),sd 9 (.load false 1 8),sd 10 (.ari .mul false 7 9),sd 11 (.mov 1),sd 12 (.ari .add false 11 (ki 1)),sd 13 (.faddr 2 0),sd 14 (.load false 1 13),sd 15 (.ari .mul false 12 14),sd 16 (.sl false 6 6 (some 10) (some 15) none),sd 4 (.mov 16)]) .ret
def z79:LC:=.seq (.stm [1,2] [sd 2 (.box 0),sd 4 (.mov (.c .nils))]) z79_0
theorem jeg:jaL Tryz.prog eqs0 105 z79 [.t 4] 17=true:=by kernel_rfl
def z80_9:LC:=.cond 18 .skip (.exit 0)
def z80_15:LC:=.cond 26 (.exit 1) .skip
def z80_14:LC:=.seq (.reg [2,3,6,7,8,9,10,16,17,26] [⟨0,some 20,none,.load true 9 2,false,false⟩,⟨1,some 21,none,.mov 10,false,false⟩,⟨3,some 23,none,.load true 9 3,false,false⟩,⟨4,some 24,none,.mov 10,false,false⟩,⟨2,some 22,none,.call 105 [20,21],true,true⟩,⟨5,some 25,none,.call 105 [23,24],false,true⟩,⟨6,some 26,none,.call 116 [22,25],false,true⟩]) z80_15
def z80_21:LC:=.cond 30 .skip (.exit 2)
def z80_29:LC:=.seq (.stm [2,3,6,7,8,9,16,17] [sd 57 (.mov 8),sd 58 (.ari .add false 57 (ki 1)),sd 59 (.mov 10),sd 60 (.ari .add false 59 (ki 1)),sd 8 (.mov 58),sd 9 (.mov 60)]) (.exit 2)
def z80_28:LC:=.seq (.stm [2,3,6,7,8,10,16,17] [sd 49 (.mov 7),sd 50 (.mov 10),sd 51 (.mov 9),sd 52 (.ari .sub false 50 51),sd 53 (.mov 11),sd 54 (.bslice (.int .i64) [52,53]),sd 55 (.call 91 [54]),sd 56 (.app (.int .u8) 49 55),sd 7 (.mov 56)]) z80_29
def z80_27:LC:=.seq (.reg [2,3,6,7,8,9,10,11,16,17] [⟨0,some 39,none,.mov 6,false,false⟩,⟨1,some 40,none,.mov 10,false,false⟩,⟨2,some 41,none,.faddr 2 0,false,false⟩,⟨3,some 42,none,.load false 1 41,false,false⟩,⟨4,some 43,none,.ari .mul false 40 42,false,false⟩,⟨5,some 44,none,.sl false 6 39 (some 43) none none,false,false⟩,⟨6,some 45,none,.load true 9 3,false,false⟩,⟨7,some 46,none,.mov 10,false,false⟩,⟨8,some 47,none,.call 105 [45,46],true,true⟩,⟨9,some 48,none,.cpy .cell 44 47,false,true⟩]) z80_28
def z80_26:LC:=.cond 38 z80_27 .skip
def z80_25:LC:=.seq (.reg [2,3,6,7,8,9,10,11,16,17,28,29,38] [⟨0,some 32,none,.load true 9 2,false,false⟩,⟨1,some 33,none,.mov 11,false,false⟩,⟨3,some 35,none,.load true 9 3,false,false⟩,⟨4,some 36,none,.mov 10,false,false⟩,⟨2,some 34,none,.call 105 [32,33],true,true⟩,⟨5,some 37,none,.call 105 [35,36],false,true⟩,⟨6,some 38,none,.call 116 [34,37],false,true⟩]) z80_26
def z80_24:LC:=.seq (.stm [2,3,6,7,8,9,10,11,16,17,28,29] [sd 31 (.mov 29),sd 11 (.mov 31)]) z80_25
def z80_23:LC:=.block 3 z80_24
def z80_22:LC:=.seq z80_23 (.stm [2,3,6,7,8,9,10,16,17,28,29] [sd 61 (.ari .add false 29 (ki 1)),sd 29 (.mov 61)])
def z80_20:LC:=.seq z80_21 z80_22
def z80_19:LC:=.seq (.stm [2,3,6,7,8,9,10,16,17,28,29,30] [sd 30 (.cmp .lss 29 28)]) z80_20
def z80_18:LC:=.loop z80_19
def z80_17:LC:=.block 2 z80_18
def z80_16:LC:=.seq (.stm [2,3,6,7,8,9,10,16,17,28,29] [sd 27 (.faddr 2 1),sd 28 (.load false 1 27),sd 29 (.mov (ki 0))]) z80_17
def z80_13:LC:=.seq z80_14 z80_16
def z80_12:LC:=.seq (.stm [2,3,6,7,8,9,10,16,17] [sd 19 (.mov 17),sd 10 (.mov 19)]) z80_13
def z80_11:LC:=.block 1 z80_12
def z80_10:LC:=.seq z80_11 (.stm [2,3,6,7,8,9,16,17] [sd 62 (.ari .add false 17 (ki 1)),sd 17 (.mov 62)])
def z80_8:LC:=.seq z80_9 z80_10
def z80_7:LC:=.seq (.stm [2,3,6,7,8,9,16,17,18] [sd 18 (.cmp .lss 17 16)]) z80_8
def z80_6:LC:=.loop z80_7
def z80_5:LC:=.block 0 z80_6
def z80_4:LC:=.seq (.stm [2,3,6,7,8,9,16,17] [sd 15 (.faddr 3 1),sd 16 (.load false 1 15),sd 17 (.mov (ki 0))]) z80_5
def z80_33:LC:=.seq (.stm [4,5] [sd 65 (.mov 6),sd 4 (.mov 65),sd 5 (.mov (.c .nils))]) .ret
def z80_32:LC:=.cond 64 z80_33 .skip
def z80_31:LC:=.seq (.stm [6,7,8,64] [sd 63 (.mov 8),sd 64 (.cmp .eql 63 (ki 0))]) z80_32
def z80_34:LC:=.seq (.stm [4,5] [sd 66 (.mov 6),sd 67 (.mov 8),sd 68 (.bslice (.int .i64) [67]),sd 69 (.call 49 [(.c (.int .u8 7)),68]),sd 70 (.mov 7),sd 71 (.app (.int .u8) 69 70),sd 4 (.mov 66),sd 5 (.mov 71)]) .ret
def z80_30:LC:=.seq z80_31 z80_34
def z80_3:LC:=.seq z80_4 z80_30
def z80_2:LC:=.seq (.stm [2,3,6,7,8,9] [sd 8 (.mov (ki 0)),sd 9 (.mov (ki 0))]) z80_3
def z80_1:LC:=.seq (.stm [2,3,6,7] [sd 7 (.mov (.c .nils))]) z80_2
def z80_0:LC:=.seq (.stm [2,3,6] [sd 12 (.faddr 2 2),sd 13 (.load false 1 12),sd 14 (.call 24 [13]),sd 6 (.mov 14)]) z80_1
def z80:LC:=.seq (.stm [2,3] [sd 2 (.box 0),sd 3 (.box 1),sd 4 (.mov (.c .nils)),sd 5 (.mov (.c .nils))]) z80_0
theorem jde:jaL Tryz.prog eqs0 87 z80 [.t 4,.t 5] 72=true:=by kernel_rfl
def z81_3:LC:=.seq (.stm [3] [sd 3 (.mov (ki 2))]) .ret
def z81_2:LC:=.cond 10 z81_3 .skip
def z81_1:LC:=.seq (.stm [10] [sd 4 (.faddr 1 2),sd 5 (.load false 1 4),sd 6 (.mov 0),sd 7 (.ixS 6 5 6),sd 8 (.faddr 7 1),sd 9 (.load false 1 8),sd 10 (.cmp .eql 9 (.c (.int .u8 1)))]) z81_2
def z81_4:LC:=.seq (.stm [3] [sd 3 (.mov (ki 1))]) .ret
def z81_0:LC:=.seq z81_1 z81_4
def z81:LC:=.seq (.stm [0,1] [sd 3 (.mov (ki 0))]) z81_0
theorem jcu:jaL Tryz.prog eqs0 117 z81 [.t 3] 11=true:=by kernel_rfl
def z82_0:LC:=.seq (.reg [5] [⟨0,some 6,none,.load false 1 1,false,false⟩,⟨1,some 7,none,.mov 0,false,false⟩,⟨2,some 8,none,.mov 0,false,false⟩,⟨3,some 9,none,.load false 1 2,false,false⟩,⟨4,some 10,none,.mov 0,false,false⟩,⟨8,some 14,none,.faddr 3 2,false,false⟩,⟨9,some 15,none,.load false 1 14,false,false⟩,⟨10,some 16,none,.mov 0,false,false⟩,⟨11,some 17,none,.mov 0,false,false⟩,⟨12,some 18,none,.load false 1 2,false,false⟩,⟨13,some 19,none,.mov 0,false,false⟩,⟨5,some 11,none,.callv 9 [10],true,true⟩,⟨6,some 12,none,.ari .add false 8 11,false,false⟩,⟨7,some 13,none,.sl false 6 6 (some 7) (some 12) none,false,false⟩,⟨14,some 20,none,.callv 18 [19],true,true⟩,⟨15,some 21,none,.ari .add false 17 20,false,false⟩,⟨16,some 22,none,.sl false 6 15 (some 16) (some 21) none,false,false⟩,⟨17,some 23,none,.call 116 [13,22],false,true⟩,⟨18,some 24,none,.un .not 23,false,false⟩,⟨19,some 5,none,.mov 24,false,false⟩]) .ret
def z82:LC:=.seq (.stm [0,1,2,3] [sd 5 (.mov (.c (.bool false)))]) z82_0
theorem jdf:jaL Tryz.prog eqs0 118 z82 [.t 5] 25=true:=by kernel_rfl
def z83_10:LC:=.cond 20 .skip (.exit 0)
def z83_9:LC:=.seq (.stm [2,3,5,6,7,8,9,10,20] [sd 17 (.mov 10),sd 18 (.load false 1 2),sd 19 (.len false 18),sd 20 (.cmp .lss 17 19)]) z83_10
def z83_15:LC:=.seq (.stm [2,3,5,6,7,8,9,10] [sd 25 (.mov 10),sd 26 (.load false 1 8),sd 27 (.mov 10),sd 28 (.callv 26 [27]),sd 29 (.ari .add false 25 28),sd 10 (.mov 29)]) (.exit 1)
def z83_14:LC:=.cond 24 z83_15 .skip
def z83_13:LC:=.seq (.stm [2,3,5,6,7,8,9,10,24] [sd 21 (.mov 9),sd 22 (.mov 10),sd 23 (.callv 21 [22]),sd 24 (.un .not 23)]) z83_14
def z83_24:LC:=.cond 55 .skip (.exit 2)
def z83_23:LC:=.seq (.reg [2,3,5,6,7,8,9,10,11,12,13,14,55] [⟨0,some 37,none,.mov 10,false,false⟩,⟨1,some 38,none,.load false 1 2,false,false⟩,⟨2,some 39,none,.len false 38,false,false⟩,⟨3,some 40,none,.cmp .lss 37 39,false,false⟩,⟨4,some 41,none,.mov 40,false,false⟩,⟨5,some 42,some (41,true),.mov 9,false,false⟩,⟨6,some 43,some (41,true),.mov 10,false,false⟩,⟨7,some 44,some (41,true),.callv 42 [43],false,true⟩,⟨8,some 45,none,.pick 41 44 (.c (.bool false)),false,false⟩,⟨9,some 46,none,.mov 45,false,false⟩,⟨10,some 47,some (46,true),.faddr 3 2,false,false⟩,⟨11,some 48,some (46,true),.load false 1 47,false,false⟩,⟨12,some 49,some (46,true),.mov 10,false,false⟩,⟨13,some 50,some (46,true),.ixS 6 48 49,false,false⟩,⟨14,some 51,some (46,true),.faddr 50 2,false,false⟩,⟨15,some 52,some (46,true),.load true 4 51,false,false⟩,⟨16,some 53,some (46,true),.load true 4 11,false,false⟩,⟨17,some 54,some (46,true),.eqA [.u32,.u32,.u8,.u16] false 52 53,false,false⟩,⟨18,some 55,none,.pick 46 54 (.c (.bool false)),false,false⟩]) z83_24
def z83_27:LC:=.seq (.stm [2,3,5,6,7,8,9,10,11,12,13,14] [sd 66 (.mov 13),sd 67 (.ari .add false 66 (ki 1)),sd 13 (.mov 67)]) (.stm [2,3,5,6,7,8,9,10,11,12,13,14] [sd 68 (.mov 10),sd 69 (.load false 1 8),sd 70 (.mov 10),sd 71 (.callv 69 [70]),sd 72 (.ari .add false 68 71),sd 10 (.mov 72)])
def z83_26:LC:=.seq (.stm [2,3,5,6,7,8,9,10,11,12,13,14] [sd 56 (.mov 14),sd 57 (.faddr 3 2),sd 58 (.load false 1 57),sd 59 (.mov 10),sd 60 (.ixS 6 58 59),sd 61 (.faddr 60 0),sd 62 (.load false 1 61),sd 63 (.conv .u64 true 62),sd 64 (.call 113 [63]),sd 65 (.app (.int .u8) 56 64),sd 14 (.mov 65)]) z83_27
def z83_25:LC:=.block 3 z83_26
def z83_22:LC:=.seq z83_23 z83_25
def z83_21:LC:=.loop z83_22
def z83_20:LC:=.block 2 z83_21
def z83_28:LC:=.seq (.stm [2,3,5,6,8,9,10] [sd 73 (.mov 5),sd 74 (.mov 12),sd 75 (.mov 7),sd 76 (.ari .sub false 74 75),sd 77 (.mov 13),sd 78 (.faddr 11 0),sd 79 (.load false 1 78),sd 80 (.conv .i64 false 79),sd 81 (.faddr 11 1),sd 82 (.load false 1 81),sd 83 (.conv .i64 false 82),sd 84 (.faddr 11 2),sd 85 (.load false 1 84),sd 86 (.conv .i64 false 85),sd 87 (.faddr 11 3),sd 88 (.load false 1 87),sd 89 (.conv .i64 false 88),sd 90 (.bslice (.int .i64) [76,77,80,83,86,89]),sd 91 (.call 91 [90]),sd 92 (.app (.int .u8) 73 91),sd 93 (.mov 14),sd 94 (.app (.int .u8) 92 93),sd 5 (.mov 94)]) (.stm [2,3,5,6,7,8,9,10] [sd 95 (.mov 6),sd 96 (.ari .add false 95 (ki 1)),sd 97 (.mov 10),sd 6 (.mov 96),sd 7 (.mov 97)])
def z83_19:LC:=.seq z83_20 z83_28
def z83_18:LC:=.seq (.stm [2,3,5,6,7,8,9,10,11,12,13,14] [sd 14 (.mov (.c .nils))]) z83_19
def z83_17:LC:=.seq (.stm [2,3,5,6,7,8,9,10,11,12,13] [sd 36 (.mov 10),sd 12 (.mov 36),sd 13 (.mov (ki 0))]) z83_18
def z83_16:LC:=.seq (.stm [2,3,5,6,7,8,9,10,11] [sd 30 (.faddr 3 2),sd 31 (.load false 1 30),sd 32 (.mov 10),sd 33 (.ixS 6 31 32),sd 34 (.faddr 33 2),sd 35 (.load true 4 34),sd 11 (.zero [.int .u32 0,.int .u32 0,.int .u8 0,.int .u16 0]),sn (.store 4 11 35)]) z83_17
def z83_12:LC:=.seq z83_13 z83_16
def z83_11:LC:=.block 1 z83_12
def z83_8:LC:=.seq z83_9 z83_11
def z83_7:LC:=.loop z83_8
def z83_6:LC:=.block 0 z83_7
def z83_5:LC:=.seq (.stm [2,3,5,6,7,8,9,10] [sd 10 (.mov (ki 0))]) z83_6
def z83_32:LC:=.seq (.stm [4] [sd 4 (.mov (.c .nils))]) .ret
def z83_31:LC:=.cond 99 z83_32 .skip
def z83_30:LC:=.seq (.stm [5,6,99] [sd 98 (.mov 6),sd 99 (.cmp .eql 98 (ki 0))]) z83_31
def z83_33:LC:=.seq (.stm [4] [sd 100 (.mov 6),sd 101 (.bslice (.int .i64) [100]),sd 102 (.call 49 [(.c (.int .u8 8)),101]),sd 103 (.mov 5),sd 104 (.app (.int .u8) 102 103),sd 4 (.mov 104)]) .ret
def z83_29:LC:=.seq z83_30 z83_33
def z83_4:LC:=.seq z83_5 z83_29
def z83_3:LC:=.seq (.stm [2,3,5,6,7,8,9] [sd 16 (.mkfn 118 [2,8,3]),sd 9 (.mov 16)]) z83_4
def z83_2:LC:=.seq (.stm [2,3,5,6,7,8] [sd 15 (.mkfn 117 [3]),sd 8 (.zero [.nilfn]),sn (.store 1 8 15)]) z83_3
def z83_1:LC:=.seq (.stm [2,3,5,6,7] [sd 6 (.mov (ki 0)),sd 7 (.mov (ki 0))]) z83_2
def z83_0:LC:=.seq (.stm [2,3,5] [sd 5 (.mov (.c .nils))]) z83_1
def z83:LC:=.seq (.stm [2,3] [sd 2 (.box 0),sd 3 (.box 1),sd 4 (.mov (.c .nils))]) z83_0
theorem jeh:jaL Tryz.prog eqs0 88 z83 [.t 4] 105=true:=by kernel_rfl
def z84_7:LC:=.cond 37 (.stm [2,3,5,6] [sd 6 (.mov (ki 1))]) .skip
def z84_6:LC:=.seq (.stm [2,3,5,6,37] [sd 36 (.faddr 3 5),sd 37 (.load false 1 36)]) z84_7
def z84_5:LC:=.seq z84_6 (.stm [2,3,5] [sd 38 (.mov 5),sd 39 (.faddr 3 3),sd 40 (.load false 1 39),sd 41 (.faddr 3 4),sd 42 (.load false 1 41),sd 43 (.mov 6),sd 44 (.bslice (.int .i64) [40,42,43]),sd 45 (.call 49 [(.c (.int .u8 2)),44]),sd 46 (.app (.int .u8) 38 45),sd 5 (.mov 46)])
def z84_4:LC:=.seq (.stm [2,3,5,6] [sd 6 (.mov (ki 0))]) z84_5
def z84_3:LC:=.cond 35 z84_4 .skip
def z84_2:LC:=.seq (.stm [2,3,5,35] [sd 17 (.faddr 3 3),sd 18 (.load false 1 17),sd 19 (.faddr 2 3),sd 20 (.load false 1 19),sd 21 (.cmp .neq 18 20),sd 22 (.mov 21),.g 22 false [sd 23 (.faddr 3 4),sd 24 (.load false 1 23),sd 25 (.faddr 2 4),sd 26 (.load false 1 25),sd 27 (.cmp .neq 24 26)] 28 (.c (.bool true)) 27,sd 29 (.mov 28),.g 29 false [sd 30 (.faddr 3 5),sd 31 (.load false 1 30),sd 32 (.faddr 2 5),sd 33 (.load false 1 32),sd 34 (.cmpB true 31 33)] 35 (.c (.bool true)) 34]) z84_3
def z84_11:LC:=.seq (.stm [2,3,5,7] [sd 53 (.faddr 3 7),sd 54 (.load false 1 53),sd 55 (.s2b 54),sd 56 (.call 83 [55]),sd 52 (.mov 56),sd 57 (.ext 52 0),sd 58 (.ext 52 1),sd 7 (.mov 57),sd 8 (.mov 58)]) (.stm [2,3,5] [sd 59 (.mov 5),sd 60 (.bslice (.int .u8) [(.c (.int .u8 3))]),sd 61 (.app (.int .u8) 59 60),sd 62 (.mov 7),sd 63 (.app (.int .u8) 61 62),sd 5 (.mov 63)])
def z84_10:LC:=.cond 51 z84_11 .skip
def z84_9:LC:=.seq (.stm [2,3,5,51] [sd 47 (.faddr 3 7),sd 48 (.load false 1 47),sd 49 (.faddr 2 7),sd 50 (.load false 1 49),sd 51 (.cmp .neq 48 50)]) z84_10
def z84_14:LC:=.cond 68 (.stm [2,3,5] [sd 69 (.mov 5),sd 70 (.faddr 3 6),sd 71 (.load false 1 70),sd 72 (.conv .i64 false 71),sd 73 (.bslice (.int .i64) [72]),sd 74 (.call 49 [(.c (.int .u8 4)),73]),sd 75 (.app (.int .u8) 69 74),sd 5 (.mov 75)]) .skip
def z84_13:LC:=.seq (.stm [2,3,5,68] [sd 64 (.faddr 3 6),sd 65 (.load false 1 64),sd 66 (.faddr 2 6),sd 67 (.load false 1 66),sd 68 (.cmp .neq 65 67)]) z84_14
def z84_24:LC:=.cond 106 .skip (.exit 0)
def z84_23:LC:=.seq (.reg [2,3,5,9,106] [⟨0,some 82,none,.mov 9,false,false⟩,⟨1,some 83,none,.faddr 3 8,false,false⟩,⟨2,some 84,none,.load false 1 83,false,false⟩,⟨3,some 85,none,.len false 84,false,false⟩,⟨4,some 86,none,.cmp .lss 82 85,false,false⟩,⟨5,some 87,none,.mov 86,false,false⟩,⟨6,some 88,some (87,true),.mov 9,false,false⟩,⟨7,some 89,some (87,true),.faddr 2 8,false,false⟩,⟨8,some 90,some (87,true),.load false 1 89,false,false⟩,⟨9,some 91,some (87,true),.len false 90,false,false⟩,⟨10,some 92,some (87,true),.cmp .lss 88 91,false,false⟩,⟨11,some 93,none,.pick 87 92 (.c (.bool false)),false,false⟩,⟨12,some 94,none,.mov 93,false,false⟩,⟨13,some 95,some (94,true),.faddr 3 8,false,false⟩,⟨14,some 96,some (94,true),.load false 1 95,false,false⟩,⟨15,some 97,some (94,true),.mov 9,false,false⟩,⟨16,some 98,some (94,true),.ixS 1 96 97,false,false⟩,⟨17,some 99,some (94,true),.load false 1 98,false,false⟩,⟨18,some 100,some (94,true),.faddr 2 8,false,false⟩,⟨19,some 101,some (94,true),.load false 1 100,false,false⟩,⟨20,some 102,some (94,true),.mov 9,false,false⟩,⟨21,some 103,some (94,true),.ixS 1 101 102,false,false⟩,⟨22,some 104,some (94,true),.load false 1 103,false,false⟩,⟨23,some 105,some (94,true),.cmp .eql 99 104,false,false⟩,⟨24,some 106,none,.pick 94 105 (.c (.bool false)),false,false⟩]) z84_24
def z84_25:LC:=.block 1 (.stm [2,3,5,9] [sd 107 (.mov 9),sd 108 (.ari .add false 107 (ki 1)),sd 9 (.mov 108)])
def z84_22:LC:=.seq z84_23 z84_25
def z84_21:LC:=.loop z84_22
def z84_20:LC:=.block 0 z84_21
def z84_32:LC:=.cond 125 .skip (.exit 2)
def z84_36:LC:=.seq (.stm [2,3,5,12,122,123,124] [sd 129 (.mov 11),sd 130 (.s2b 129),sd 131 (.call 83 [130]),sd 128 (.mov 131),sd 132 (.ext 128 0),sd 133 (.ext 128 1),sd 12 (.mov 132),sd 13 (.mov 133)]) (.stm [2,3,5,122,123,124] [sd 134 (.mov 5),sd 135 (.mov 12),sd 136 (.app (.int .u8) 134 135),sd 5 (.mov 136)])
def z84_35:LC:=.seq (.stm [2,3,5,11,122,123,124] [sd 126 (.ixS 1 122 124),sd 127 (.load false 1 126),sd 11 (.mov 127)]) z84_36
def z84_34:LC:=.block 3 z84_35
def z84_33:LC:=.seq z84_34 (.stm [2,3,5,122,123,124] [sd 137 (.ari .add false 124 (ki 1)),sd 124 (.mov 137)])
def z84_31:LC:=.seq z84_32 z84_33
def z84_30:LC:=.seq (.stm [2,3,5,122,123,124,125] [sd 125 (.cmp .lss 124 123)]) z84_31
def z84_29:LC:=.loop z84_30
def z84_28:LC:=.block 2 z84_29
def z84_27:LC:=.seq (.stm [2,3,5,122,123,124] [sd 119 (.faddr 3 8),sd 120 (.load false 1 119),sd 121 (.mov 9),sd 122 (.sl false 1 120 (some 121) none none),sd 123 (.len false 122),sd 124 (.mov (ki 0))]) z84_28
def z84_26:LC:=.seq (.stm [2,3,5,9] [sd 109 (.mov 5),sd 110 (.mov 9),sd 111 (.faddr 3 8),sd 112 (.load false 1 111),sd 113 (.len false 112),sd 114 (.mov 9),sd 115 (.ari .sub false 113 114),sd 116 (.bslice (.int .i64) [110,115]),sd 117 (.call 49 [(.c (.int .u8 5)),116]),sd 118 (.app (.int .u8) 109 117),sd 5 (.mov 118)]) z84_27
def z84_19:LC:=.seq z84_20 z84_26
def z84_18:LC:=.seq (.stm [2,3,5,9] [sd 9 (.mov (ki 0))]) z84_19
def z84_17:LC:=.cond 81 z84_18 .skip
def z84_16:LC:=.seq (.stm [2,3,5,81] [sd 76 (.faddr 3 8),sd 77 (.load false 1 76),sd 78 (.faddr 2 8),sd 79 (.load false 1 78),sd 80 (.call 84 [77,79]),sd 81 (.un .not 80)]) z84_17
def z84_42:LC:=.seq (.stm [2,3,5,14] [sd 148 (.mov 5),sd 149 (.mov 14),sd 150 (.ari .mul false (ki 2) 149),sd 151 (.ari .sub false 150 (ki 1)),sd 152 (.mov 14),sd 153 (.ari .mul false (ki (-2)) 152),sd 154 (.mm true 151 153),sd 155 (.bslice (.int .i64) [154]),sd 156 (.call 49 [(.c (.int .u8 6)),155]),sd 157 (.app (.int .u8) 148 156),sd 5 (.mov 157)]) (.stm [2,3,5] [sd 158 (.load true 9 2),sd 159 (.mov 14),sd 160 (.call 65 [158,159]),sd 161 (.faddr 2 2),sn (.store 1 161 160)])
def z84_41:LC:=.cond 147 z84_42 .skip
def z84_40:LC:=.seq (.stm [2,3,5,14,147] [sd 146 (.mov 14),sd 147 (.cmp .neq 146 (ki 0))]) z84_41
def z84_39:LC:=.seq (.stm [2,3,5,14] [sd 143 (.load true 9 2),sd 144 (.load true 9 3),sd 145 (.call 86 [143,144]),sd 14 (.mov 145)]) z84_40
def z84_45:LC:=.seq (.stm [4] [sd 171 (.mov 5),sd 172 (.mov 15),sd 173 (.load true 9 3),sd 174 (.call 88 [172,173]),sd 175 (.app (.int .u8) 171 174),sd 4 (.mov 175)]) .ret
def z84_44:LC:=.seq (.stm [3,5,15] [sd 168 (.mov 5),sd 169 (.mov 16),sd 170 (.app (.int .u8) 168 169),sd 5 (.mov 170)]) z84_45
def z84_43:LC:=.seq (.stm [3,5,15,16] [sd 163 (.load true 9 2),sd 164 (.load true 9 3),sd 165 (.call 87 [163,164]),sd 162 (.mov 165),sd 166 (.ext 162 0),sd 167 (.ext 162 1),sd 15 (.mov 166),sd 16 (.mov 167)]) z84_44
def z84_38:LC:=.seq z84_39 z84_43
def z84_37:LC:=.seq (.stm [2,3,5] [sd 138 (.load true 9 2),sd 139 (.faddr 3 8),sd 140 (.load false 1 139),sd 141 (.call 85 [138,140]),sd 142 (.faddr 2 2),sn (.store 1 142 141)]) z84_38
def z84_15:LC:=.seq z84_16 z84_37
def z84_12:LC:=.seq z84_13 z84_15
def z84_8:LC:=.seq z84_9 z84_12
def z84_1:LC:=.seq z84_2 z84_8
def z84_0:LC:=.seq (.stm [2,3,5] [sd 5 (.mov (.c .nils))]) z84_1
def z84:LC:=.seq (.stm [2,3] [sd 2 (.box 0),sd 3 (.box 1),sd 4 (.mov (.c .nils))]) z84_0
theorem jfx:jaL Tryz.prog eqs0 47 z84 [.t 4] 176=true:=by kernel_rfl
def z85_3:LC:=.seq (.stm [2,3] [sd 2 (.mov (.c .nils)),sd 3 (.mov (ki 1))]) .ret
def z85_2:LC:=.cond 8 z85_3 .skip
def z85_1:LC:=.seq (.stm [1,8] [sd 6 (.load true 9 1),sd 7 (.call 22 [6]),sd 8 (.un .not 7)]) z85_2
def z85_5:LC:=.seq (.reg [2,3] [⟨0,some 17,none,.faddr 1 0,false,false⟩,⟨1,some 18,none,.load false 1 17,false,false⟩,⟨2,some 19,none,.faddr 1 1,false,false⟩,⟨3,some 20,none,.load false 1 19,false,false⟩,⟨6,some 23,none,.load true 9 4,false,false⟩,⟨7,some 24,none,.load true 9 1,false,false⟩,⟨4,some 21,none,.bslice (.int .i64) [18,20],false,false⟩,⟨5,some 22,none,.call 49 [(.c (.int .u8 1)),21],true,true⟩,⟨8,some 25,none,.call 47 [23,24],false,true⟩,⟨9,some 26,none,.app (.int .u8) 22 25,false,true⟩,⟨10,some 2,none,.mov 26,false,false⟩,⟨11,some 3,none,.mov (ki 0),false,false⟩]) .ret
def z85_4:LC:=.seq (.stm [1,4] [sd 10 (.faddr 1 0),sd 11 (.load false 1 10),sd 12 (.faddr 1 1),sd 13 (.load false 1 12),sd 14 (.call 48 [11,13]),sd 9 (.mov 14),sd 15 (.ext 9 0),sd 16 (.ext 9 1),sd 4 (.zero [.int .i64 0,.int .i64 0,.nils,.int .i64 0,.int .i64 0,.bool false,.int .u8 0,.str (bs []),.nils]),sn (.store 9 4 15),sd 5 (.mov 16)]) z85_5
def z85_0:LC:=.seq z85_1 z85_4
def z85:LC:=.seq (.stm [1] [sd 1 (.box 0),sd 2 (.mov (.c .nils)),sd 3 (.mov (ki 0))]) z85_0
theorem jez:jaL Tryz.prog eqs0 17 z85 [.t 2,.t 3] 27=true:=by kernel_rfl
def z86_4:LC:=.seq (.stm [4,5] [sd 4 (.mov (.c .nils)),sd 5 (.mov (ki 1))]) .ret
def z86_7:LC:=.seq (.stm [4,5] [sd 28 (.load true 9 3),sd 29 (.call 17 [28]),sd 30 (.ext 29 0),sd 31 (.ext 29 1),sd 4 (.mov 30),sd 5 (.mov 31)]) .ret
def z86_6:LC:=.cond 15 z86_7 .skip
def z86_5:LC:=.seq (.stm [2,3,15] [sd 16 (.faddr 2 0),sd 17 (.load false 1 16),sd 18 (.faddr 3 0),sd 19 (.load false 1 18),sd 20 (.cmp .neq 17 19),sd 21 (.mov 20),.g 21 false [sd 22 (.faddr 2 1),sd 23 (.load false 1 22),sd 24 (.faddr 3 1),sd 25 (.load false 1 24),sd 26 (.cmp .neq 23 25)] 27 (.c (.bool true)) 26,sd 15 (.mov 27)]) z86_6
def z86_3:LC:=.cond 6 z86_4 z86_5
def z86_2:LC:=.seq (.stm [2,3,6] [sd 7 (.load true 9 2),sd 8 (.call 22 [7]),sd 9 (.un .not 8),sd 10 (.mov 9),.g 10 false [sd 11 (.load true 9 3),sd 12 (.call 22 [11]),sd 13 (.un .not 12)] 14 (.c (.bool true)) 13,sd 6 (.mov 14)]) z86_3
def z86_1:LC:=.block 0 z86_2
def z86_8:LC:=.seq (.stm [4,5] [sd 32 (.load true 9 2),sd 33 (.load true 9 3),sd 34 (.call 47 [32,33]),sd 4 (.mov 34),sd 5 (.mov (ki 0))]) .ret
def z86_0:LC:=.seq z86_1 z86_8
def z86:LC:=.seq (.stm [2,3] [sd 2 (.box 0),sd 3 (.box 1),sd 4 (.mov (.c .nils)),sd 5 (.mov (ki 0))]) z86_0
theorem jeG:jaL Tryz.prog eqs0 16 z86 [.t 4,.t 5] 35=true:=by kernel_rfl
end
end Go.Proofs.YtcfkfgkndncanaaGreatDoor
