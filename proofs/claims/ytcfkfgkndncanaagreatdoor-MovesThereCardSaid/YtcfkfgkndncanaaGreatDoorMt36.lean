/- Texts of this claim, merged by a program of this claim: KBlank, KLaw18, KRdif. -/
import Derived.Test.YtcfkfgkndncanaaGreatDoorMt5
namespace Go.Proofs.YtcfkfgkndncanaaGreatDoor
set_option linter.unusedVariables false
set_option linter.unusedSimpArgs false
section
open Go.RowKit
set_option maxRecDepth 100000
def z87_0:LC:=.seq (.stm [0] [sd 1 (.build [.int .i64 0,.int .i32 0,.int .u8 0,.int .u8 0] []),sd 2 (.box 1),sd 0 (.mov 2)]) .ret
def z87:LC:=.seq (.stm [] [sd 0 (.mov (.c .nilptr))]) z87_0
theorem jka:jaL Tryz.prog eqs0 128 z87 [.t 0] 3=true:=by kernel_rfl
def z88_0:LC:=.seq (.stm [0] [sd 1 (.call 128 []),sd 2 (.build [.nilptr,.int .i64 0,.bool false,.int .u8 0,.bool false,.nils,.nils,.bool false] [(0,1,1)]),sd 3 (.box 2),sd 0 (.mov 3)]) .ret
def z88:LC:=.seq (.stm [] [sd 0 (.mov (.c .nilptr))]) z88_0
theorem jgZ:jaL Tryz.prog eqs0 120 z88 [.t 0] 4=true:=by kernel_rfl
def z89_5:LC:=.cond 15 .skip (.exit 0)
def z89_8:LC:=.seq (.stm [0,2,14] [sd 16 (.mov 14),sd 2 (.mov 16)]) (.stm [0,14] [sd 17 (.mov 0),sd 18 (.mov 2),sd 19 (.mov 2),sd 20 (.ari .rem false 19 (ki 8)),sd 21 (.cmp .eql 20 (ki 0)),sd 22 (.mov 21),.g 22 true [sd 23 (.mov 2),sd 24 (.cmp .gtr 23 (ki 0))] 25 24 (.c (.bool false)),sd 26 (.nilck 17),sd 27 (.faddr 26 23),sd 28 (.ixA 80 1 27 18),sn (.store 1 28 25)])
def z89_7:LC:=.block 1 z89_8
def z89_6:LC:=.seq z89_7 (.stm [0,14] [sd 29 (.ari .add false 14 (ki 1)),sd 14 (.mov 29)])
def z89_4:LC:=.seq z89_5 z89_6
def z89_3:LC:=.seq (.stm [0,14,15] [sd 15 (.cmp .lss 14 (ki 80))]) z89_4
def z89_2:LC:=.loop z89_3
def z89_1:LC:=.block 0 z89_2
def z89_0:LC:=.seq (.stm [0,14] [sd 14 (.mov (ki 0))]) z89_1
def z89:LC:=.seq (.stm [0] [sd 3 (.mov 0),sd 4 (.mov 0),sd 5 (.mov 0),sd 6 (.nilck 5),sd 7 (.faddr 6 8),sd 8 (.load false 1 7),sd 9 (.ari .sub false 8 (ki 1)),sd 10 (.nilck 3),sd 11 (.faddr 10 17),sn (.store 1 11 (ki 0)),sd 12 (.nilck 4),sd 13 (.faddr 12 18),sn (.store 1 13 9)]) z89_0
theorem jdg:jaL Tryz.prog eqs0 121 z89 [] 30=true:=by kernel_rfl
def z90_4:LC:=.seq (.stm [4,5] [sd 19 (.mov 7),sd 4 (.mov (.c .nilptr)),sd 5 (.mov 19)]) .ret
def z90_3:LC:=.cond 18 z90_4 .skip
def z90_2:LC:=.seq (.stm [0,1,6,7,18] [sd 17 (.mov 7),sd 18 (.cmp .neq 17 (ki 0))]) z90_3
def z90_8:LC:=.seq (.stm [4,5] [sd 36 (.mov 10),sd 4 (.mov 36),sd 5 (.mov (ki 0))]) .ret
def z90_7:LC:=.seq (.stm [10] [sd 34 (.mov 10),sd 35 (.call 121 [34])]) z90_8
def z90_6:LC:=.seq (.reg [10] [⟨0,some 26,none,.mov 0,false,false⟩,⟨1,some 27,none,.mov 1,false,false⟩,⟨2,some 28,none,.load true 3 6,false,false⟩,⟨3,some 29,none,.load true 3 8,false,false⟩,⟨4,some 30,none,.build [.int .i64 0,.int .i64 0,.nils,.int .i64 0,.int .i64 0,.nils] [(0,3,28),(3,3,29)],false,false⟩,⟨5,some 31,none,.call 120 [],true,true⟩,⟨6,some 32,none,.build ([.int .i64 0,.int .i64 0,.int .u32 0,.int .u32 0,.int .u8 0,.int .u16 0,.bool false,.int .i64 0,.int .i64 0,.int .i64 0,.int .i64 0,.nils,.int .i64 0,.int .i64 0,.nils,.int .i64 0,.bool false,.int .i64 0,.int .i64 0,.bool false,.bool false,.bool false,.int .u8 0]++List.replicate 80 (.bool false)++[.int .i64 0,.int .i64 0,.int .u32 0,.int .u32 0,.int .u8 0,.int .u16 0,.bool false,.str (bs []),.nils,.int .i32 0,.nilptr]) [(7,1,26),(8,1,27),(9,6,30),(19,1,(.c (.bool true))),(113,1,31)],false,false⟩,⟨7,some 33,none,.box 32,false,false⟩,⟨8,some 10,none,.mov 33,false,false⟩]) z90_7
def z90_5:LC:=.seq (.stm [0,1,6,8] [sd 21 (.mov 0),sd 22 (.mov 1),sd 23 (.call 119 [21,22]),sd 20 (.mov 23),sd 24 (.ext 20 0),sd 25 (.ext 20 1),sd 8 (.zero [.int .i64 0,.int .i64 0,.nils]),sn (.store 3 8 24),sd 9 (.mov 25)]) z90_6
def z90_1:LC:=.seq z90_2 z90_5
def z90_0:LC:=.seq (.stm [0,1,6,7] [sd 12 (.mov 0),sd 13 (.mov 1),sd 14 (.call 119 [12,13]),sd 11 (.mov 14),sd 15 (.ext 11 0),sd 16 (.ext 11 1),sd 6 (.zero [.int .i64 0,.int .i64 0,.nils]),sn (.store 3 6 15),sd 7 (.mov 16)]) z90_1
def z90:LC:=.seq (.stm [0,1] [sd 4 (.mov (.c .nilptr)),sd 5 (.mov (ki 0))]) z90_0
theorem jh8:jaL Tryz.prog eqs0 89 z90 [.t 4,.t 5] 37=true:=by kernel_rfl
def z91_0:LC:=.seq (.reg [2] [⟨0,some 3,none,.mov 0,false,false⟩,⟨1,some 4,none,.mov 0,false,false⟩,⟨2,some 5,none,.nilck 4,false,false⟩,⟨3,some 6,none,.faddr 5 15,false,false⟩,⟨4,some 7,none,.load false 1 6,false,false⟩,⟨5,some 8,none,.nilck 3,false,false⟩,⟨6,some 9,none,.faddr 8 9,false,false⟩,⟨7,some 10,none,.ixA 2 3 9 7,false,false⟩,⟨8,some 11,none,.load true 3 10,false,false⟩,⟨9,none,none,.store 3 2 11,false,true⟩]) .ret
def z91:LC:=.seq (.stm [0,2] [sd 2 (.zero [.int .i64 0,.int .i64 0,.nils])]) z91_0
theorem jdK:jaL Tryz.prog eqs0 123 z91 [.c 2 true 3] 12=true:=by kernel_rfl
def z92_3:LC:=.seq (.stm [2] [sd 7 (.build [.int .i64 0,.int .i64 0,.nils,.int .i64 0,.int .i64 0,.bool false,.int .u8 0,.str (bs []),.nils] []),sn (.store 9 2 7)]) .ret
def z92_2:LC:=.cond 6 z92_3 .skip
def z92_1:LC:=.seq (.stm [0,2,6] [sd 5 (.mov 0),sd 6 (.cmpN 0 false 5)]) z92_2
def z92_5:LC:=.seq (.reg [2] [⟨0,some 19,none,.mov 0,false,false⟩,⟨1,some 20,none,.nilck 19,false,false⟩,⟨2,some 21,none,.faddr 20 7,false,false⟩,⟨3,some 22,none,.load false 1 21,false,false⟩,⟨4,some 23,none,.mov 0,false,false⟩,⟨5,some 24,none,.nilck 23,false,false⟩,⟨6,some 25,none,.faddr 24 8,false,false⟩,⟨7,some 26,none,.load false 1 25,false,false⟩,⟨8,some 27,none,.mov 3,false,false⟩,⟨9,some 28,none,.mov 0,false,false⟩,⟨10,some 29,none,.nilck 28,false,false⟩,⟨11,some 30,none,.faddr 29 0,false,false⟩,⟨12,some 31,none,.faddr 30 0,false,false⟩,⟨13,some 32,none,.load false 1 31,false,false⟩,⟨14,some 33,none,.mov 0,false,false⟩,⟨15,some 34,none,.nilck 33,false,false⟩,⟨16,some 35,none,.faddr 34 0,false,false⟩,⟨17,some 36,none,.faddr 35 1,false,false⟩,⟨18,some 37,none,.load false 1 36,false,false⟩,⟨19,some 38,none,.mov 0,false,false⟩,⟨20,some 39,none,.nilck 38,false,false⟩,⟨21,some 40,none,.faddr 39 21,false,false⟩,⟨22,some 41,none,.load false 1 40,false,false⟩,⟨23,some 42,none,.mov 0,false,false⟩,⟨24,some 43,none,.nilck 42,false,false⟩,⟨25,some 44,none,.faddr 43 22,false,false⟩,⟨26,some 45,none,.load false 1 44,false,false⟩,⟨27,some 46,none,.mov 0,false,false⟩,⟨28,some 47,none,.nilck 46,false,false⟩,⟨29,some 48,none,.faddr 47 110,false,false⟩,⟨30,some 49,none,.load false 1 48,false,false⟩,⟨31,some 50,none,.mov 4,false,false⟩,⟨32,some 51,none,.build [.int .i64 0,.int .i64 0,.nils,.int .i64 0,.int .i64 0,.bool false,.int .u8 0,.str (bs []),.nils] [(0,1,22),(1,1,26),(2,1,27),(3,1,32),(4,1,37),(5,1,41),(6,1,45),(7,1,49),(8,1,50)],false,false⟩,⟨33,none,none,.store 9 2 51,false,true⟩]) .ret
def z92_4:LC:=.seq (.reg [0,2,3,4] [⟨0,some 9,none,.mov 0,false,false⟩,⟨3,some 12,none,.mov 0,false,false⟩,⟨4,some 13,none,.nilck 12,false,false⟩,⟨5,some 14,none,.faddr 13 111,false,false⟩,⟨6,some 15,none,.load false 1 14,false,false⟩,⟨1,some 10,none,.call 123 [9],true,true⟩,⟨2,some 11,none,.field 10 2 1 false,false,false⟩,⟨7,some 16,none,.call 122 [11,15],false,true⟩,⟨8,some 8,none,.mov 16,false,false⟩,⟨9,some 17,none,.ext 8 0,false,false⟩,⟨10,some 18,none,.ext 8 1,false,false⟩,⟨11,some 3,none,.mov 17,false,false⟩,⟨12,some 4,none,.mov 18,false,false⟩]) z92_5
def z92_0:LC:=.seq z92_1 z92_4
def z92:LC:=.seq (.stm [0,2] [sd 2 (.zero [.int .i64 0,.int .i64 0,.nils,.int .i64 0,.int .i64 0,.bool false,.int .u8 0,.str (bs []),.nils])]) z92_0
theorem jc4:jaL Tryz.prog eqs0 90 z92 [.c 2 true 9] 52=true:=by kernel_rfl
def z93_4:LC:=.seq (.stm [4,5] [sd 16 (.build [.int .i64 0,.int .i64 0,.nils,.int .i64 0,.int .i64 0,.bool false,.int .u8 0,.str (bs []),.nils] []),sd 17 (.mov 7),sn (.store 9 4 16),sd 5 (.mov 17)]) .ret
def z93_3:LC:=.cond 15 z93_4 .skip
def z93_2:LC:=.seq (.stm [4,6,7,15] [sd 14 (.mov 7),sd 15 (.cmp .neq 14 (ki 0))]) z93_3
def z93_5:LC:=.seq (.stm [4,5] [sd 18 (.mov 6),sd 19 (.call 90 [18]),sn (.store 9 4 19),sd 5 (.mov (ki 0))]) .ret
def z93_1:LC:=.seq z93_2 z93_5
def z93_0:LC:=.seq (.stm [4,6,7] [sd 9 (.mov 0),sd 10 (.mov 1),sd 11 (.call 89 [9,10]),sd 8 (.mov 11),sd 12 (.ext 8 0),sd 13 (.ext 8 1),sd 6 (.mov 12),sd 7 (.mov 13)]) z93_1
def z93:LC:=.seq (.stm [0,1,4] [sd 4 (.zero [.int .i64 0,.int .i64 0,.nils,.int .i64 0,.int .i64 0,.bool false,.int .u8 0,.str (bs []),.nils]),sd 5 (.mov (ki 0))]) z93_0
theorem jc5:jaL Tryz.prog eqs0 48 z93 [.c 4 true 9,.t 5] 20=true:=by kernel_rfl
def z94_4:LC:=.seq (.stm [4,5] [sd 16 (.build [.int .i64 0,.int .i64 0,.nils,.int .i64 0,.int .i64 0,.bool false,.int .u8 0,.str (bs []),.nils] []),sd 17 (.mov 7),sn (.store 9 4 16),sd 5 (.mov 17)]) .ret
def z94_3:LC:=.cond 15 z94_4 .skip
def z94_2:LC:=.seq (.stm [0,1,4,6,7,15] [sd 14 (.mov 7),sd 15 (.cmp .neq 14 (ki 0))]) z94_3
def z94_5:LC:=.seq (.stm [4,5] [sd 18 (.mov 0),sd 19 (.mov 1),sd 20 (.faddr 6 2),sd 21 (.load false 1 20),sd 22 (.build [.int .i64 0,.int .i64 0,.nils,.int .i64 0,.int .i64 0,.bool false,.int .u8 0,.str (bs []),.nils] [(0,1,18),(1,1,19),(2,1,21)]),sn (.store 9 4 22),sd 5 (.mov (ki 0))]) .ret
def z94_1:LC:=.seq z94_2 z94_5
def z94_0:LC:=.seq (.stm [0,1,4,6,7] [sd 9 (.mov 0),sd 10 (.mov 1),sd 11 (.call 95 [9,10]),sd 8 (.mov 11),sd 12 (.ext 8 0),sd 13 (.ext 8 1),sd 6 (.zero [.int .i64 0,.int .i64 0,.nils]),sn (.store 3 6 12),sd 7 (.mov 13)]) z94_1
def z94:LC:=.seq (.stm [0,1,4] [sd 4 (.zero [.int .i64 0,.int .i64 0,.nils,.int .i64 0,.int .i64 0,.bool false,.int .u8 0,.str (bs []),.nils]),sd 5 (.mov (ki 0))]) z94_0
theorem jnR:jaL Tryz.prog eqs0 55 z94 [.c 4 true 9,.t 5] 23=true:=by kernel_rfl
end
section
open Go.RowKit
set_option maxRecDepth 100000
def z95_7:LC:=.cond 16 .skip (.exit 0)
def z95_9:LC:=.seq (.stm [0,2,3,5,6,14] [sd 17 (.ext 15 1),sd 18 (.ext 15 2),sd 5 (.mov 17),sd 6 (.mov 18)]) (.stm [0,2,3,14] [sd 19 (.faddr 3 2),sd 20 (.load false 1 19),sd 21 (.mov 5),sd 22 (.mov 6),sd 23 (.ixS 6 20 21),sd 24 (.faddr 23 0),sn (.store 1 24 22)])
def z95_8:LC:=.block 1 z95_9
def z95_6:LC:=.seq z95_7 z95_8
def z95_5:LC:=.seq (.stm [0,2,3,14,15,16] [sd 15 (.nxt 14),sd 16 (.ext 15 0)]) z95_6
def z95_4:LC:=.loop z95_5
def z95_3:LC:=.block 0 z95_4
def z95_2:LC:=.seq (.stm [0,2,3,14] [sd 13 (.mov 0),sd 14 (.rng 13)]) z95_3
def z95_11:LC:=.seq (.stm [2] [sd 29 (.load true 9 3),sn (.store 9 2 29)]) .ret
def z95_10:LC:=.seq (.stm [2,3] [sd 25 (.mov 0),sd 26 (.len true 25),sd 27 (.ari .sub false 26 (ki 1)),sd 28 (.faddr 3 4),sn (.store 1 28 27)]) z95_11
def z95_1:LC:=.seq z95_2 z95_10
def z95_0:LC:=.seq (.stm [0,2,3] [sd 8 (.mov 0),sd 9 (.len true 8),sd 10 (.call 55 [(ki 1),9]),sd 7 (.mov 10),sd 11 (.ext 7 0),sd 12 (.ext 7 1),sd 3 (.zero [.int .i64 0,.int .i64 0,.nils,.int .i64 0,.int .i64 0,.bool false,.int .u8 0,.str (bs []),.nils]),sn (.store 9 3 11),sd 4 (.mov 12)]) z95_1
def z95:LC:=.seq (.stm [0,2] [sd 2 (.zero [.int .i64 0,.int .i64 0,.nils,.int .i64 0,.int .i64 0,.bool false,.int .u8 0,.str (bs []),.nils])]) z95_0
theorem jmV:jaL Tryz.prog eqs0 21 z95 [.c 2 true 9] 30=true:=by kernel_rfl
def z96_2:LC:=.seq (.stm [0] [sd 17 (.mov 2),sd 18 (.cmp .eql 17 (ki 0)),sd 19 (.mov 18),.g 19 true [sd 20 (.mov 4),sd 21 (.cmp .eql 20 (ki 0))] 22 21 (.c (.bool false)),sd 23 (.mov 22),.b 23 true [sd 24 (.mov 1),sd 25 (.bslice (.int .u8) [(.c (.int .u8 6)),(.c (.int .u8 1)),(.c (.int .u8 8)),(.c (.int .u8 1)),(.c (.int .u8 2)),(.c (.int .u8 1)),(.c (.int .u8 0)),(.c (.int .u8 0)),(.c (.int .u8 0)),(.c (.int .u8 0)),(.c (.int .u8 100))]),sd 26 (.call 14 [24,25])] 27 26 (.c (.bool false)),sd 28 (.mov 27),.b 28 true [sd 29 (.mov 3),sd 30 (.bslice (.int .u8) [(.c (.int .u8 7)),(.c (.int .u8 1)),(.c (.int .u8 0)),(.c (.int .u8 1))]),sd 31 (.call 14 [29,30])] 32 31 (.c (.bool false)),sd 0 (.mov 32)]) .ret
def z96_1:LC:=.seq (.stm [1,2,3,4] [sd 12 (.call 21 [(.c (.str (bs [97,98,99])))]),sd 13 (.call 21 [(.c (.str (bs [98,98,99])))]),sd 14 (.call 16 [12,13]),sd 11 (.mov 14),sd 15 (.ext 11 0),sd 16 (.ext 11 1),sd 3 (.mov 15),sd 4 (.mov 16)]) z96_2
def z96_0:LC:=.seq (.stm [1,2] [sd 6 (.call 21 [(.c (.str (bs [97,98,99])))]),sd 7 (.call 21 [(.c (.str (bs [98,99,100])))]),sd 8 (.call 16 [6,7]),sd 5 (.mov 8),sd 9 (.ext 5 0),sd 10 (.ext 5 1),sd 1 (.mov 9),sd 2 (.mov 10)]) z96_1
def z96:LC:=.seq (.stm [] [sd 0 (.mov (.c (.bool false)))]) z96_0
theorem jkh:jaL Tryz.prog eqs0 8 z96 [.t 0] 33=true:=by kernel_rfl
end
section
open Go.RowKit
set_option maxRecDepth 100000
end
end Go.Proofs.YtcfkfgkndncanaaGreatDoor
