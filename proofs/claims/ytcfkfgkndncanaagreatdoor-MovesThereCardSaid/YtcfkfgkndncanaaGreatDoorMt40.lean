/- Texts of this claim, merged by a program of this claim: KDefer. -/
import Derived.Test.YtcfkfgkndncanaaGreatDoorMt9
namespace Go.Proofs.YtcfkfgkndncanaaGreatDoor
set_option linter.unusedVariables false
set_option linter.unusedSimpArgs false
section
open Go.RowKit
set_option maxRecDepth 100000
def z97_8:LC:=.cond 34 .skip (.exit 0)
def z97_7:LC:=.seq (.stm [4,5,6,7,34] [sd 29 (.mov 6),sd 30 (.nilck 29),sd 31 (.faddr 30 0),sd 32 (.load false 1 31),sd 33 (.call 27 [32]),sd 34 (.cmp .gtr 33 (ki 0))]) z97_8
def z97_13:LC:=.cond 47 (.stm [4,5,6,8] [sd 48 (.mkif 31 (ki 3)),sn (.panic 48)]) .skip
def z97_12:LC:=.seq (.stm [4,5,6,8,47] [sd 41 (.mov 8),sd 42 (.mov 7),sd 43 (.cmp .leq 41 42),sd 44 (.mov 43),.g 44 false [sd 45 (.mov 8),sd 46 (.cmp .gtr 45 (ki 8))] 47 (.c (.bool true)) 46]) z97_13
def z97_14:LC:=.seq (.stm [4,5,6,7,8] [sd 49 (.mov 8),sd 7 (.mov 49)]) (.stm [4,5,6,7] [sd 50 (.mov 6),sd 51 (.mov 8),sd 52 (.call 29 [50,51])])
def z97_11:LC:=.seq z97_12 z97_14
def z97_10:LC:=.seq (.stm [4,5,6,7,8] [sd 35 (.mov 6),sd 36 (.nilck 35),sd 37 (.faddr 36 0),sd 38 (.load false 1 37),sd 39 (.call 28 [38,(ki 1)]),sd 40 (.conv .i64 true 39),sd 8 (.mov 40)]) z97_11
def z97_9:LC:=.block 1 z97_10
def z97_6:LC:=.seq z97_7 z97_9
def z97_5:LC:=.loop z97_6
def z97_4:LC:=.block 0 z97_5
def z97_3:LC:=.seq (.stm [4,5,6,7] [sd 7 (.mov (ki 0))]) z97_4
def z97_19:LC:=.seq (.stm [4,5] [sd 67 (.build [.int .i64 0,.int .i64 0,.nils,.int .i64 0,.int .i64 0,.bool false,.int .u8 0,.str (bs []),.nils] []),sn (.store 9 4 67),sn (.store 1 5 (ki 3))]) .ret
def z97_18:LC:=.cond 66 z97_19 .skip
def z97_17:LC:=.seq (.stm [4,5,6,66] [sd 61 (.mov 6),sd 62 (.nilck 61),sd 63 (.faddr 62 1),sd 64 (.load true 9 63),sd 65 (.call 22 [64]),sd 66 (.un .not 65)]) z97_18
def z97_20:LC:=.seq (.stm [4,5] [sd 68 (.mov 6),sd 69 (.nilck 68),sd 70 (.faddr 69 1),sd 71 (.load true 9 70),sn (.store 9 4 71),sn (.store 1 5 (ki 0))]) .ret
def z97_16:LC:=.seq z97_17 z97_20
def z97_15:LC:=.seq (.stm [4,5,6] [sd 53 (.mov 6),sd 54 (.mov 6),sd 55 (.nilck 54),sd 56 (.faddr 55 10),sd 57 (.load false 1 56),sd 58 (.nilck 53),sd 59 (.faddr 58 1),sd 60 (.faddr 59 8),sn (.store 1 60 57)]) z97_16
def z97_2:LC:=.seq z97_3 z97_15
def z97_1:LC:=.seq (.reg [4,5,6] [⟨0,some 22,none,.mov 1,false,false⟩,⟨2,some 24,none,.load true 9 2,false,false⟩,⟨3,some 25,none,.faddr 2 8,false,false⟩,⟨4,some 26,none,.load false 1 25,false,false⟩,⟨1,some 23,none,.call 26 [22],true,true⟩,⟨5,some 27,none,.build [.nilptr,.int .i64 0,.int .i64 0,.nils,.int .i64 0,.int .i64 0,.bool false,.int .u8 0,.str (bs []),.nils,.nils] [(0,1,23),(1,9,24),(10,1,26)],false,false⟩,⟨6,some 28,none,.box 27,false,false⟩,⟨7,some 6,none,.mov 28,false,false⟩]) z97_2
def z97_0:LC:=.seq (.reg [1,2,4,5] [⟨0,some 14,none,.faddr 2 2,false,false⟩,⟨1,some 15,none,.load false 1 14,false,false⟩,⟨3,some 17,none,.faddr 2 8,false,false⟩,⟨4,some 18,none,.load false 1 17,false,false⟩,⟨2,some 16,none,.call 24 [15],true,true⟩,⟨6,some 20,none,.faddr 2 2,false,false⟩,⟨5,some 19,none,.call 25 [18],false,true⟩,⟨7,none,none,.store 1 20 16,false,true⟩,⟨8,some 21,none,.faddr 2 8,false,false⟩,⟨9,none,none,.store 1 21 19,false,true⟩]) z97_1
def z97_23:LC:=.seq (.stm [4,5] [sd 12 (.build [.int .i64 0,.int .i64 0,.nils,.int .i64 0,.int .i64 0,.bool false,.int .u8 0,.str (bs []),.nils] []),sn (.store 9 4 12),sn (.store 1 5 (ki 1))]) .ret
def z97_22:LC:=.cond 11 z97_23 .skip
def z97_21:LC:=.seq (.stm [1,2,4,5,11] [sd 9 (.load true 9 2),sd 10 (.call 22 [9]),sd 11 (.un .not 10)]) z97_22
def z97:LD:=.pre (.stm [1,2,4,5] [sd 2 (.box 0),sd 4 (.zero [.int .i64 0,.int .i64 0,.nils,.int .i64 0,.int .i64 0,.bool false,.int .u8 0,.str (bs []),.nils]),sd 5 (.zero [.int .i64 0])]) (.pre z97_21 (.dfr 13 23 [4,5] 6 z97_0))
theorem jhx:jmn Tryz.prog eqs0 11 z97 [.c 4 true 9,.c 5 false 1] 72=true:=by kernel_rfl
def z98_5:LC:=.cond 14 (.stm [0,1,3] [sd 3 (.mov (ki 3))]) .skip
def z98_4:LC:=.seq (.stm [0,1,3,14] [sd 13 (.mov 4),sd 14 (.un .not 13)]) z98_5
def z98_3:LC:=.seq z98_4 (.stm [] [sd 15 (.build [.int .i64 0,.int .i64 0,.nils,.int .i64 0,.int .i64 0,.bool false,.int .u8 0,.str (bs []),.nils] []),sd 16 (.mov 3),sn (.store 9 0 15),sn (.store 1 1 16)])
def z98_2:LC:=.seq (.stm [0,1,3,4] [sd 9 (.mov 2),sd 10 (.tas 31 true (.int .i64 0) 9),sd 8 (.mov 10),sd 11 (.ext 8 0),sd 12 (.ext 8 1),sd 3 (.mov 11),sd 4 (.mov 12)]) z98_3
def z98_1:LC:=.cond 7 z98_2 .skip
def z98_0:LC:=.seq (.stm [0,1,2,7] [sd 6 (.mov 2),sd 7 (.cmpN 2 true 6)]) z98_1
def z98:LC:=z98_0
abbrev jf2:FuncId:=23
theorem jf3:jq4 Tryz.prog eqs0 23 5 2 z98 17=true:=by kernel_rfl
end
end Go.Proofs.YtcfkfgkndncanaaGreatDoor
