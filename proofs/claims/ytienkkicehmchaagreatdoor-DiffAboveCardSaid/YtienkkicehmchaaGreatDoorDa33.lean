/- Texts of this claim, merged by a program of this claim: KBlank. -/
import Derived.Test.YtienkkicehmchaaGreatDoorDa5
namespace Go.Proofs.YtienkkicehmchaaGreatDoor
set_option linter.unusedVariables false
set_option linter.unusedSimpArgs false
section
open Go.RowKit
set_option maxRecDepth 100000
def z89_0:LC:=.seq (.stm [0] [sd 1 (.build [.int .i64 0,.int .i32 0,.int .u8 0,.int .u8 0] []),sd 2 (.box 1),kM 0 2]) .ret
def z89:LC:=.seq (.stm [] [kM 0 (.c .nilptr)]) z89_0
theorem jpN:jag Tryz.prog eqs0 204 z89 [.t 0] 3=true:=by kernel_rfl
def z90_0:LC:=.seq (.stm [0] [sd 1 (.call 204 []),sd 2 (.build [.nilptr,.int .i64 0,.bool false,.int .u8 0,.bool false,.nils,.nils,.bool false] [(0,1,1)]),sd 3 (.box 2),kM 0 3]) .ret
def z90:LC:=.seq (.stm [] [kM 0 (.c .nilptr)]) z90_0
theorem jlp:jag Tryz.prog eqs0 190 z90 [.t 0] 4=true:=by kernel_rfl
def z91_5:LC:=.cond 15 .skip (.exit 0)
def z91_8:LC:=.seq (.stm [0,2,14] [kM 16 14,kM 2 16]) (.stm [0,14] [kM 17 0,kM 18 2,kM 19 2,sd 20 (.ari .rem false 19 (ki 8)),sd 21 (.eq 20 (ki 0)),kM 22 21,.g 22 true [kM 23 2,sd 24 (.cmp .gtr 23 (ki 0))] 25 24 kf,sd 26 (.nilck 17),kF 27 26 23,sd 28 (.ixA 80 1 27 18),sn (.store 1 28 25)])
def z91_7:LC:=.block 1 z91_8
def z91_6:LC:=.seq z91_7 (.stm [0,14] [sd 29 (.add 14 (ki 1)),kM 14 29])
def z91_4:LC:=.seq z91_5 z91_6
def z91_3:LC:=.seq (.stm [0,14,15] [sd 15 (.lt 14 (ki 80))]) z91_4
def z91_2:LC:=.loop z91_3
def z91_1:LC:=.block 0 z91_2
def z91_0:LC:=.seq (.stm [0,14] [kM 14 (ki 0)]) z91_1
def z91:LC:=.seq (.stm [0] [kM 3 0,kM 4 0,kM 5 0,sd 6 (.nilck 5),kF 7 6 8,kL 8 1 7,sd 9 (.sub 8 (ki 1)),sd 10 (.nilck 3),kF 11 10 17,sn (.store 1 11 (ki 0)),sd 12 (.nilck 4),kF 13 12 18,sn (.store 1 13 9)]) z91_0
theorem jfq:jag Tryz.prog eqs0 191 z91 [] 30=true:=by kernel_rfl
def z92_4:LC:=.seq (.stm [4,5] [kM 19 7,kM 4 (.c .nilptr),kM 5 19]) .ret
def z92_3:LC:=.cond 18 z92_4 .skip
def z92_2:LC:=.seq (.stm [0,1,6,7,18] [kM 17 7,sd 18 (.cmp .neq 17 (ki 0))]) z92_3
def z92_8:LC:=.seq (.stm [4,5] [kM 36 10,kM 4 36,kM 5 (ki 0)]) .ret
def z92_7:LC:=.seq (.stm [10] [kM 34 10,sd 35 (.call 191 [34])]) z92_8
def z92_6:LC:=.seq (.reg [10] [kR 0 26 (.mov 0),kR 1 27 (.mov 1),kR 2 28 (.load true 3 6),kR 3 29 (.load true 3 8),kR 4 30 (.build [.int .i64 0,.int .i64 0,.nils,.int .i64 0,.int .i64 0,.nils] [(0,3,28),(3,3,29)]),⟨5,some 31,none,.call 190 [],true,true⟩,kR 6 32 (.build ([.int .i64 0,.int .i64 0,.int .u32 0,.int .u32 0,.int .u8 0,.int .u16 0,.bool false,.int .i64 0,.int .i64 0,.int .i64 0,.int .i64 0,.nils,.int .i64 0,.int .i64 0,.nils,.int .i64 0,.bool false,.int .i64 0,.int .i64 0,.bool false,.bool false,.bool false,.int .u8 0]++List.replicate 80 (.bool false)++[.int .i64 0,.int .i64 0,.int .u32 0,.int .u32 0,.int .u8 0,.int .u16 0,.bool false,.str (bs []),.nils,.int .i32 0,.nilptr]) [(7,1,26),(8,1,27),(9,6,30),(19,1,kt),(113,1,31)]),kR 7 33 (.box 32),kR 8 10 (.mov 33)]) z92_7
def z92_5:LC:=.seq (.stm [0,1,6,8] [kM 21 0,kM 22 1,sd 23 (.call 189 [21,22]),kM 20 23,sd 24 (.ext 20 0),sd 25 (.ext 20 1),sd 8 (.zero [.int .i64 0,.int .i64 0,.nils]),sn (.store 3 8 24),kM 9 25]) z92_6
def z92_1:LC:=.seq z92_2 z92_5
def z92_0:LC:=.seq (.stm [0,1,6,7] [kM 12 0,kM 13 1,sd 14 (.call 189 [12,13]),kM 11 14,sd 15 (.ext 11 0),sd 16 (.ext 11 1),sd 6 (.zero [.int .i64 0,.int .i64 0,.nils]),sn (.store 3 6 15),kM 7 16]) z92_1
def z92:LC:=.seq (.stm [0,1] [kM 4 (.c .nilptr),kM 5 (ki 0)]) z92_0
theorem jm8:jag Tryz.prog eqs0 163 z92 [.t 4,.t 5] 37=true:=by kernel_rfl
def z93_0:LC:=.seq (.reg [2] [kR 0 3 (.mov 0),kR 1 4 (.mov 0),kR 2 5 (.nilck 4),kR 3 6 (.fa 5 15),kR 4 7 (.ld 1 6),kR 5 8 (.nilck 3),kR 6 9 (.fa 8 9),kR 7 10 (.ixA 2 3 9 7),kR 8 11 (.load true 3 10),⟨9,none,none,.store 3 2 11,false,true⟩]) .ret
def z93:LC:=.seq (.stm [0,2] [sd 2 (.zero [.int .i64 0,.int .i64 0,.nils])]) z93_0
theorem jfP:jag Tryz.prog eqs0 193 z93 [.c 2 true 3] 12=true:=by kernel_rfl
def z94_3:LC:=.seq (.stm [2] [sd 7 (.build [.int .i64 0,.int .i64 0,.nils,.int .i64 0,.int .i64 0,.bool false,.int .u8 0,.str (bs []),.nils] []),sn (.store 9 2 7)]) .ret
def z94_2:LC:=.cond 6 z94_3 .skip
def z94_1:LC:=.seq (.stm [0,2,6] [kM 5 0,sd 6 (.cmpN 0 false 5)]) z94_2
def z94_5:LC:=.seq (.reg [2] [kR 0 19 (.mov 0),kR 1 20 (.nilck 19),kR 2 21 (.fa 20 7),kR 3 22 (.ld 1 21),kR 4 23 (.mov 0),kR 5 24 (.nilck 23),kR 6 25 (.fa 24 8),kR 7 26 (.ld 1 25),kR 8 27 (.mov 3),kR 9 28 (.mov 0),kR 10 29 (.nilck 28),kR 11 30 (.fa 29 0),kR 12 31 (.fa 30 0),kR 13 32 (.ld 1 31),kR 14 33 (.mov 0),kR 15 34 (.nilck 33),kR 16 35 (.fa 34 0),kR 17 36 (.fa 35 1),kR 18 37 (.ld 1 36),kR 19 38 (.mov 0),kR 20 39 (.nilck 38),kR 21 40 (.fa 39 21),kR 22 41 (.ld 1 40),kR 23 42 (.mov 0),kR 24 43 (.nilck 42),kR 25 44 (.fa 43 22),kR 26 45 (.ld 1 44),kR 27 46 (.mov 0),kR 28 47 (.nilck 46),kR 29 48 (.fa 47 110),kR 30 49 (.ld 1 48),kR 31 50 (.mov 4),kR 32 51 (.build [.int .i64 0,.int .i64 0,.nils,.int .i64 0,.int .i64 0,.bool false,.int .u8 0,.str (bs []),.nils] [(0,1,22),(1,1,26),(2,1,27),(3,1,32),(4,1,37),(5,1,41),(6,1,45),(7,1,49),(8,1,50)]),⟨33,none,none,.store 9 2 51,false,true⟩]) .ret
def z94_4:LC:=.seq (.reg [0,2,3,4] [kR 0 9 (.mov 0),kR 3 12 (.mov 0),kR 4 13 (.nilck 12),kR 5 14 (.fa 13 111),kR 6 15 (.ld 1 14),⟨1,some 10,none,.call 193 [9],true,true⟩,kR 2 11 (.field 10 2 1 false),⟨7,some 16,none,.call 192 [11,15],false,true⟩,kR 8 8 (.mov 16),kR 9 17 (.ext 8 0),kR 10 18 (.ext 8 1),kR 11 3 (.mov 17),kR 12 4 (.mov 18)]) z94_5
def z94_0:LC:=.seq z94_1 z94_4
def z94:LC:=.seq (.stm [0,2] [sd 2 (.zero [.int .i64 0,.int .i64 0,.nils,.int .i64 0,.int .i64 0,.bool false,.int .u8 0,.str (bs []),.nils])]) z94_0
theorem jeN:jag Tryz.prog eqs0 164 z94 [.c 2 true 9] 52=true:=by kernel_rfl
def z95_4:LC:=.seq (.stm [4,5] [sd 16 (.build [.int .i64 0,.int .i64 0,.nils,.int .i64 0,.int .i64 0,.bool false,.int .u8 0,.str (bs []),.nils] []),kM 17 7,sn (.store 9 4 16),kM 5 17]) .ret
def z95_3:LC:=.cond 15 z95_4 .skip
def z95_2:LC:=.seq (.stm [4,6,7,15] [kM 14 7,sd 15 (.cmp .neq 14 (ki 0))]) z95_3
def z95_5:LC:=.seq (.stm [4,5] [kM 18 6,sd 19 (.call 164 [18]),sn (.store 9 4 19),kM 5 (ki 0)]) .ret
def z95_1:LC:=.seq z95_2 z95_5
def z95_0:LC:=.seq (.stm [4,6,7] [kM 9 0,kM 10 1,sd 11 (.call 163 [9,10]),kM 8 11,sd 12 (.ext 8 0),sd 13 (.ext 8 1),kM 6 12,kM 7 13]) z95_1
def z95:LC:=.seq (.stm [0,1,4] [sd 4 (.zero [.int .i64 0,.int .i64 0,.nils,.int .i64 0,.int .i64 0,.bool false,.int .u8 0,.str (bs []),.nils]),kM 5 (ki 0)]) z95_0
theorem jhl:jag Tryz.prog eqs0 136 z95 [.c 4 true 9,.t 5] 20=true:=by kernel_rfl
def z96_4:LC:=.seq (.stm [4,5] [sd 16 (.build [.int .i64 0,.int .i64 0,.nils,.int .i64 0,.int .i64 0,.bool false,.int .u8 0,.str (bs []),.nils] []),kM 17 7,sn (.store 9 4 16),kM 5 17]) .ret
def z96_3:LC:=.cond 15 z96_4 .skip
def z96_2:LC:=.seq (.stm [0,1,4,6,7,15] [kM 14 7,sd 15 (.cmp .neq 14 (ki 0))]) z96_3
def z96_5:LC:=.seq (.stm [4,5] [kM 18 0,kM 19 1,kF 20 6 2,kL 21 1 20,sd 22 (.build [.int .i64 0,.int .i64 0,.nils,.int .i64 0,.int .i64 0,.bool false,.int .u8 0,.str (bs []),.nils] [(0,1,18),(1,1,19),(2,1,21)]),sn (.store 9 4 22),kM 5 (ki 0)]) .ret
def z96_1:LC:=.seq z96_2 z96_5
def z96_0:LC:=.seq (.stm [0,1,4,6,7] [kM 9 0,kM 10 1,sd 11 (.call 45 [9,10]),kM 8 11,sd 12 (.ext 8 0),sd 13 (.ext 8 1),sd 6 (.zero [.int .i64 0,.int .i64 0,.nils]),sn (.store 3 6 12),kM 7 13]) z96_1
def z96:LC:=.seq (.stm [0,1,4] [sd 4 (.zero [.int .i64 0,.int .i64 0,.nils,.int .i64 0,.int .i64 0,.bool false,.int .u8 0,.str (bs []),.nils]),kM 5 (ki 0)]) z96_0
theorem jlq:jag Tryz.prog eqs0 23 z96 [.c 4 true 9,.t 5] 23=true:=by kernel_rfl
end
end Go.Proofs.YtienkkicehmchaaGreatDoor
